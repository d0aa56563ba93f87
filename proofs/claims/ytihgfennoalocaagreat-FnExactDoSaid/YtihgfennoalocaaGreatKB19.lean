/-
  Jobs that wait or run; queues; both.
-/
import Derived.Test.YtihgfennoalocaaGreatKB7
import Derived.Test.YtihgfennoalocaaGreatKB20
set_option maxRecDepth 100000
set_option maxHeartbeats 16000000
namespace Go.Proofs.YtihgfennoalocaaGreat
open Go Go.RowKit Tryz
section
attribute [local irreducible] AWp QJ OpOk ACalls ChA QsOk MCalls EnC PY

theorem Yw(l:List Job)(j:Job):jobE l++[[.n .i64 j.id,.n .i64 j.prio,.n .i64 j.nodes,.n .i64 j.need.a,.n .i64 j.need.b,.n .i64 j.need.c,.n .i64 j.lic.a,.n .i64 j.lic.b,.n .i64 j.lic.c,.n .i64 j.wall,.n .i64 j.level]]=jobE (l++[j]):=by simp[jobE]
theorem Qqs(l l':List Job):jobE l++jobE l'=jobE (l++l'):=by simp[jobE]
theorem Qtp{s:Qd}(hs:Ql 1000000000 s):DC Tryz.prog 192 [Qx s] [zL (jobE (allJ s))]:=by
 refine zMC func192 fun w0 Z O=>?_
 have hql:=Qk s.queue
 have hqs:=hs.que
 have hrs:=hs.run
 have hrl:=Qf s.runs
 repeat'(first|(refine zhm fun hb=>?_;try exact zab)|refine zUtp ?_|refine zg2 ?_ ?_|intro _|fail)
 refine Qa (fun(i:Nat)=>⟨24,[(3,.row 6),(11,zL (runE s.runs)),(12,zI (s.runs.length:Nat)),(13,zI i)],[(6,.row 72 (jobE (s.queue++(s.runs.take i).map Run.job)) true)]⟩) (fun i=>i<=s.runs.length) (fun i=>s.runs.length-i) 0 (by exact Xab _) ?_ ?_
 ·refine⟨rfl,?_,?_,rfl⟩
  repeat'(first|exact ze3|refine ze2 ?_ ?_|refine ze4 ?_|exact ze5|fail)
  all_goals exact zp (by first|rfl|exact Qf _|(simp only[List.take_zero,List.map_nil,List.append_nil,List.nil_append];done)|simp[jobE])
 ·intro i hi
  have hal:(jobE (s.queue++(s.runs.take i).map Run.job)).length=s.queue.length+i:=by
   rw[Qk,Xac,Xah,Xai];omega
  have hal2:(s.queue++(s.runs.take i).map Run.job).length=s.queue.length+i:=by
   rw[Xac,Xah,Xai];omega
  by_cases hi':i<s.runs.length
  ·repeat'(first|(refine zhm fun hb=>?_;try exact zab)|refine zUtp ?_|refine zg2 ?_ ?_|intro _|fail)
   refine⟨i+1,by omega,by omega,?_⟩
   refine zag ?_;exact zp (by(rw[QI hi',XaI,<-Xaq];exact Yw _ _))
  ·repeat'(first|(refine zhm fun hb=>?_;try exact zab)|refine zUrp ?_|refine zg2 ?_ ?_|intro _|fail)
   show AWp _ _ _ _
   refine Qs 6 rfl ?_
   refine QD ?_
   apply Qt
   refine zm () [] trivial ?_ ?_ ?_
   repeat'(first|exact ze3|refine ze2 ?_ ?_|refine ze4 ?_|exact ze5|fail)
   all_goals exact zp (by first|rfl|(rw[Xaz (by omega)];rfl))
theorem Qat{s:Qd}(hs:Ql 1000000000 s):DC Tryz.prog 173 [Qx s] [zL (jobE (allJ s))]:=by
 refine zMC func173 fun w0 Z O=>?_
 have hql:=Qk s.queue
 have hqs:=hs.que
 have hrs:=hs.run
 have hrl:=Qf s.runs
 repeat'(first|(refine zhm fun hb=>?_;try exact zab)|refine zUtp ?_|refine zg2 ?_ ?_|intro _|fail)
 refine Qa (fun(i:Nat)=>⟨24,[(3,.row 6),(11,zL (runE s.runs)),(12,zI (s.runs.length:Nat)),(13,zI i)],[(6,.row 72 (jobE (s.queue++(s.runs.take i).map Run.job)) true)]⟩) (fun i=>i<=s.runs.length) (fun i=>s.runs.length-i) 0 (by exact Xab _) ?_ ?_
 ·refine⟨rfl,?_,?_,rfl⟩
  repeat'(first|exact ze3|refine ze2 ?_ ?_|refine ze4 ?_|exact ze5|fail)
  all_goals exact zp (by first|rfl|exact Qf _|(simp only[List.take_zero,List.map_nil,List.append_nil,List.nil_append];done)|simp[jobE])
 ·intro i hi
  have hal:(jobE (s.queue++(s.runs.take i).map Run.job)).length=s.queue.length+i:=by
   rw[Qk,Xac,Xah,Xai];omega
  have hal2:(s.queue++(s.runs.take i).map Run.job).length=s.queue.length+i:=by
   rw[Xac,Xah,Xai];omega
  by_cases hi':i<s.runs.length
  ·repeat'(first|(refine zhm fun hb=>?_;try exact zab)|refine zUtp ?_|refine zg2 ?_ ?_|intro _|fail)
   refine⟨i+1,by omega,by omega,?_⟩
   refine zag ?_;exact zp (by(rw[QI hi',XaI,<-Xaq];exact Yw _ _))
  ·repeat'(first|(refine zhm fun hb=>?_;try exact zab)|refine zUrp ?_|refine zg2 ?_ ?_|intro _|fail)
   show AWp _ _ _ _
   refine Qs 6 rfl ?_
   refine QD ?_
   apply Qt
   refine zm () [] trivial ?_ ?_ ?_
   repeat'(first|exact ze3|refine ze2 ?_ ?_|refine ze4 ?_|exact ze5|fail)
   all_goals exact zp (by first|rfl|(rw[Xaz (by omega)];rfl))
def idxF{α:Type}(l:List α)(p:α->Bool):Int:=if l.any p=true then((l.findIdx p:Nat):Int)else -1
theorem Qun{α:Type}[Inhabited α]{l:List α}{p:α->Bool}(h:∀j,j<l.length->p (nth l j)=false):l.any p=false:=by
 cases e:l.any p with
 | false=>rfl
 | true=>
  obtain⟨x,hx,hp⟩:=XaX.1 e
  obtain⟨j,hj,rfl⟩:=J1 hx
  rw[h j hj]at hp
  cases hp
theorem QoS{α:Type}[Inhabited α]{l:List α}{p:α->Bool}{j:Nat}(hj:j<l.length)(h:p (nth l j)=true):l.any p=true:=XaX.2 ⟨_,QO hj,h⟩
theorem Qfq{α:Type}[Inhabited α]{l:List α}{p:α->Bool}{i:Nat}(hi:i<l.length)(h:p (nth l i)=true)(hp:∀j,j<i->p (nth l j)=false):idxF l p=i:=by
 unfold idxF
 rw[if_pos (QoS hi h)]
 congr 1
 rw[List.findIdx_eq hi]
 refine⟨by rw[<-Ja hi];exact h,fun j hj=>?_⟩
 have:=hp j hj
 rwa [Ja (by omega)]at this
theorem Qpc{α:Type}[Inhabited α]{l:List α}{p:α->Bool}(h:∀j,j<l.length->p (nth l j)=false):idxF l p = -1:=by
 unfold idxF
 rw[if_neg (by rw[Qun h];decide)]
theorem Qci{α:Type}(l:List α)(p:α->Bool):decide (0<=idxF l p)=l.any p:=by
 unfold idxF
 cases h:l.any p with
 | true=>rw[if_pos rfl];simp
 | false=>rw[if_neg (by decide)];decide
theorem QdV{l:List Job}{p:Job->Bool}{g:FuncId}{ds:List D}(h:l.length<=1000000000)(hg:∀j,zAc g [jobA j,.pd ds 0] [.d (.b (p j))] []):zAc 280 [zL (jobE l),.clo g [.pd ds 0]] [zI (idxF l p)] []:=by
 refine zAC func280 fun w0 Z=>?_
 have hl:=Qk l
 repeat'(first|(refine zhm fun hb=>?_;try exact zab)|refine zUtp ?_|refine zg2 ?_ ?_|intro _|fail)
 refine Qa (fun(i:Nat)=>⟨19,[(0,zL (jobE l)),(1,.clo g [.pd ds 0]),(7,zI (l.length:Nat)),(8,zI i)],[]⟩) (fun i=>i<=l.length/\∀j,j<i->p (nth l j)=false) (fun i=>l.length-i) 0 (by exact⟨Xab _,fun j hj=>absurd hj (Xas _)⟩) ?_ ?_
 ·exact zll
 ·rintro i ⟨hi,hp⟩
  by_cases hi':i<l.length
  ·repeat'(first|(refine zhm fun hb=>?_;try exact zab)|refine zUtp ?_|refine zg2 ?_ ?_|refine kv (hg (nth l i)) rfl rfl rfl rfl rfl ?_|intro _|fail)
   ·rw[Qfq hi' (by assumption) hp]
    exact zrr
   ·refine⟨i+1,⟨by omega,fun j hj=>?_⟩,by omega,?_⟩
    ·by_cases e:j=i
     ·subst e;assumption
     ·exact hp j (by omega)
    exact zll
  ·rw[Qpc (fun j hj=>hp j (by omega))]
   repeat'(first|(refine zhm fun hb=>?_;try exact zab)|refine zUtp ?_|refine zg2 ?_ ?_|intro _|fail)
   exact zrr
theorem Qek{l:List Job}{p:Job->Bool}{g:FuncId}{ds:List D}(h:l.length<=1000000000)(hg:∀j,zAc g [jobA j,.pd ds 0] [.d (.b (p j))] []):zAc 243 [zL (jobE l),.clo g [.pd ds 0]] [.d (.b (l.any p))] []:=by
 refine zAC func243 fun w0 Z=>?_
 repeat'(first|(refine zhm fun hb=>?_;try exact zab)|refine zUto ?_|refine zg2 ?_ ?_|refine kc (QdV h hg) rfl rfl ?_|intro _|fail)
 refine zr [] ?_ ?_
 repeat'(first|exact ze3|refine ze2 ?_ ?_|refine ze4 ?_|exact ze5|fail)
 all_goals exact zp (Qci l p)
theorem Qj1{l:List Job}{i:Nat}(hi:i<l.length)(h:Qu (nth l i)=false):Yk l=false:=pB_f.2 fun q=>by rw[q.jobs i hi]at h;cases h
theorem Qjx{l:List Job}{i k:Nat}(hi:i<l.length)(hk:k<i)(h:(nth l k).id=(nth l i).id):Yk l=false:=pB_f.2 fun q=>q.diff i hi k hk h
theorem Qq0{l:List Job}(h:60<l.length):Yk l=false:=pB_f.2 fun q=>by have:=q.len;omega
theorem Qn0{l:List Job}(h:∀i,i<l.length->Qu (nth l i)=true/\∀k,k<i->(nth l k).id≠(nth l i).id):Yk l=decide (l.length<=60):=by
 rw[Xan,Yk,pB_t,decide_eq_true_eq]
 exact⟨fun q=>q.len,fun q=>⟨q,fun i hi=>(h i hi).1,fun i hi=>(h i hi).2⟩⟩
theorem Qp1(l:List Job)(i:Nat):(List.drop 0 ((jobE l).take i))=jobE (l.take i):=by simp[jobE,List.map_take]
theorem Qlu{j k:Job}:zAc 244 [jobA k,.pd (jobD j) 0] [.d (.b (k.id==j.id))] []:=by
 refine zAC func244 fun w0 Z=>?_
 repeat'(first|refine zUco ?_|(refine Hb.mk (fun hb=>?_);(first|rw[decide_eq_true_eq]at hb|rw[decide_eq_false_iff_not]at hb|skip);(first|(exfalso;omega)|(exact absurd rfl hb)|skip))|refine zg2 ?_ ?_|intro _|fail)
 exact zrr
theorem QkZ{α:Type}[Inhabited α]{l:List α}{i k:Nat}(h:k<i):nth (l.take i) k=nth l k:=by
 simp[nth,List.getD,List.getElem?_take_of_lt h]
theorem Qg6{l:List Job}(h:l.length<=1000000000):zAc 191 [zL (jobE l)] [.d (.b (Yk l))] []:=by
 refine zAC func191 fun w0 Z=>?_
 have hl:=Qk l
 repeat'(first|(refine zhm fun hb=>?_;try exact zab)|refine zUtp ?_|refine zg2 ?_ ?_|intro _|fail)
 refine Qa (fun(i:Nat)=>⟨26,[(0,zL (jobE l)),(5,zL (jobE l)),(6,zI (l.length:Nat)),(7,zI i)],[]⟩) (fun i=>i<=l.length/\∀j,j<i->Qu (nth l j)=true/\∀k,k<j->(nth l k).id≠(nth l j).id) (fun i=>l.length-i) 0 (by exact⟨Xab _,fun j hj=>absurd hj (Xas _)⟩) ?_ ?_
 ·exact zll
 ·rintro i ⟨hi,hp⟩
  by_cases hi':i<l.length
  ·have hc:=Qek (l:=l.take i) (p:=fun k=>k.id==(nth l i).id) (g:=244) (ds:=jobD (nth l i)) (by rw[Xai];omega) (fun k=>Qlu)
   rw[<-Qp1]at hc
   have htl:(l.take i).length=i:=by rw[Xai];omega
   repeat'(first|(refine zhm fun hb=>?_;try exact zab)|refine zUtp ?_|refine zg2 ?_ ?_|refine kc (ZM (j:=nth l i)) rfl rfl ?_|intro _|fail)
   ·rw[Qj1 hi' (by assumption)]
    exact zrr
   ·obtain⟨x,hx,he⟩:=XaX.1 hb
    obtain⟨k,hk,rfl⟩:=J1 hx
    rw[Qjx hi' (by omega:k<i) (by rw[QkZ (by omega)]at he;exact beq_iff_eq.1 he)]
    exact zrr
   ·rename_i hjob hany
    refine⟨i+1,⟨by omega,fun j hj=>?_⟩,by omega,?_⟩
    ·by_cases e:j=i
     ·subst e
      refine⟨by assumption,fun k hk he=>?_⟩
      have:=QoS (l:=l.take j) (p:=fun k=>k.id==(nth l j).id) (j:=k) (by omega) (by rw[QkZ hk];exact beq_iff_eq.2 he)
      simp_all
     ·exact hp j (by omega)
    exact zll
  ·rw[Qn0 fun j hj=>hp j (by omega)]
   repeat'(first|refine zUcp ?_|(refine Hb.mk (fun hb=>?_);(first|rw[decide_eq_true_eq]at hb|rw[decide_eq_false_iff_not]at hb|skip);(first|(exfalso;omega)|(exact absurd rfl hb)|skip))|refine zg2 ?_ ?_|intro _|fail)
   refine zr [] ?_ ?_
   repeat'(first|exact ze3|refine ze2 ?_ ?_|refine ze4 ?_|exact ze5|fail)
   all_goals exact zp (by first|rfl|exact decide_eq_decide.2 (by omega))
theorem Qds{l:List Job}(h:l.length<=1000000000):zAc 172 [zL (jobE l)] [.d (.b (Yk l))] []:=by
 refine zAC func172 fun w0 Z=>?_
 have hl:=Qk l
 by_cases h60:60<l.length
 ·rw[Qq0 h60]
  repeat'(first|(refine zhm fun hb=>?_;try exact zab)|refine Qe ?_|(apply zch;exact zcg)|exact zhk|refine zg3 ?_ ?_|intro _|fail)
  exact zrr
 ·repeat'(first|(refine zhm fun hb=>?_;try exact zab)|refine Qe ?_|(apply zch;exact zcg)|exact zhk|refine zg3 ?_ ?_|intro _|fail)
  refine Qa (fun(i:Nat)=>⟨33,[(0,zL (jobE l)),(9,zL (jobE l)),(10,zI (l.length:Nat)),(11,zI i)],[]⟩) (fun i=>i<=l.length/\∀j,j<i->Qu (nth l j)=true/\∀k,k<j->(nth l k).id≠(nth l j).id) (fun i=>l.length-i) 0 (by exact⟨Xab _,fun j hj=>absurd hj (Xas _)⟩) ?_ ?_
  ·exact zll
  ·rintro i ⟨hi,hp⟩
   by_cases hi':i<l.length
   ·have hc:=QcT (j:=nth l i)
    cases hj:Qu (nth l i) with
    | false=>
     rw[hj]at hc
     rw[Qj1 hi' hj]
     repeat'(first|(refine zhm fun hb=>?_;try exact zab)|refine Qe ?_|(apply zch;exact zcg)|exact zhk|refine zg3 ?_ ?_|intro _|fail)
     exact zrr
    | true=>
     rw[hj]at hc
     repeat'(first|(refine zhm fun hb=>?_;try exact zab)|refine Qe ?_|(apply zch;exact zcg)|exact zhk|refine zg3 ?_ ?_|intro _|fail)
     refine Qa (fun(k:Nat)=>⟨33,[(0,zL (jobE l)),(3,zI i),(4,.ptr 4 0),(5,zI k),(9,zL (jobE l)),(10,zI (l.length:Nat)),(11,zI i)],[(4,.box 72 ((jobD (nth l i)).map AV.d))]⟩) (fun k=>k<=i/\∀m,m<k->(nth l m).id≠(nth l i).id) (fun k=>i-k) 0 (by exact⟨Xab _,fun j hj=>absurd hj (Xas _)⟩) ?_ ?_
     ·exact zll
     ·rintro k ⟨hk,hm⟩
      by_cases hk':k<i
      ·repeat'(first|(refine zhm fun hb=>?_;try exact zab)|refine Qe ?_|(apply zch;exact zcg)|exact zhk|refine zg3 ?_ ?_|intro _|fail)
       ·rw[Qjx hi' hk' (by assumption)]
        exact zrr
       ·refine⟨k+1,⟨by omega,fun m hm'=>?_⟩,by omega,?_⟩
        ·by_cases e:m=k
         ·subst e;assumption
         ·exact hm m (by omega)
        exact zll
      ·repeat'(first|(refine zhm fun hb=>?_;try exact zab)|refine Qe ?_|(apply zch;exact zcg)|exact zhk|refine zg3 ?_ ?_|intro _|fail)
       refine⟨i+1,⟨by omega,fun j hj'=>?_⟩,by omega,?_⟩
       ·by_cases e:j=i
        ·subst e;exact⟨hj,fun m hm'=>hm m (by omega)⟩
        ·exact hp j (by omega)
       exact zll
   ·rw[Qn0 fun j hj=>hp j (by omega),decide_eq_true (by omega)]
    repeat'(first|(refine zhm fun hb=>?_;try exact zab)|refine Qe ?_|(apply zch;exact zcg)|exact zhk|refine zg3 ?_ ?_|intro _|fail)
    exact zrr

theorem QgI{s:Qd}:QgC s↔(empO s).isSome=true/\0<=s.now/\s.now<=1000000000:=by
 constructor
 ·intro h
  rw[Qg2 h.topo h.up h.lic]
  exact⟨rfl,h.now⟩
 ·rintro ⟨h,hn⟩
  unfold empO at h
  split at h
  ·rename_i hc
   simp only[Xaf,decide_eq_true_eq]at hc
   exact⟨JT.1 hc.1.1,hc.1.2,hc.2,hn⟩
  ·cases h
theorem Qqc{s:Qd}(hs:Ql 1000000000 s):DC Tryz.prog 171 [Qx s] (XW (JG s)):=by
 refine zMC func171 fun w0 Z O=>?_
 have c1:=Qlr hs
 have c3:=Y1 (x:=s.now)
 by_cases hB:QgC s
 ·have h1:=hB.up
  have h2:=hB.now
  have h3:=hB.topo.nlen
  have h4:=hB.topo.len
  rw[Qg2 hB.topo hB.up hB.lic]at c1
  rw[show inB s.now 0 1000000000=true by rw[Yr];exact h2]at c3
  rw[QfQ hB]
  repeat'(first|(refine zhm fun hb=>?_;try exact zab)|refine zUtp ?_|refine zg2 ?_ ?_|refine kmu c1 ?_|intro _|fail)
  refine Qa (fun(k:Nat×Jy)=>⟨93,[(1,.ptr 1 0),(2,.ptr 2 0),(4,.ptr 4 0),(27,zL (runE s.runs)),(28,zI (s.runs.length:Nat)),(29,zI k.1)],[(1,.box 49 (JB s)),(2,.box 209 [.nil,.nil,.nil,.nil,.nil]),(4,.box 209 (Qa9 k.2))]⟩) (fun k=>GoP s k.1 k.2) (fun k=>s.runs.length-k.1) (0,Jf s.topo s.up s.lic) (by exact⟨Xab _,Vi hB.topo h1 hB.lic,rfl⟩) ?_ ?_
  ·exact zll
  ·rintro ⟨n,r⟩ hg
   dsimp only at hg ⊢
   have hle:=hg.le
   have hrl:=Qf s.runs
   by_cases hn:n<s.runs.length
   ·have c5:=QdY (j:=(nth s.runs n).job) (l:=(nth s.runs n).nodes) hg.ok (hs.rno n hn)
    cases hd:(Qu (nth s.runs n).job&&Zn r.topo (nth s.runs n).job (nth s.runs n).nodes) with
    | false=>
     rw[hd]at c5
     have hnone:W4 s.now s.runs (Jf s.topo s.up s.lic)=none:=by
      cases hb0:runB s.now (nth s.runs n) with
      | false=>exact QoG hg hn hb0
      | true=>
       refine QoC hg hn ?_
       cases hj:Qu (nth s.runs n).job with
       | false=>exact QcN hj
       | true=>rw[hj,Xbx]at hd;exact Qdw hd
     rw[hnone]
     repeat'(first|(refine zhm fun hb=>?_;try exact zab)|refine zUr ?_|refine zg2 ?_ ?_|(apply YE;first|refine zom ?_|(apply QOk.ok;refine ZC rfl rfl rfl rfl rfl rfl ?_))|refine zln fun _=>?_|refine zop ?_|refine zqj c5 ?_|fail)
     exact zDR
    | true=>
     rw[hd]at c5
     rw[Xaf]at hd
     obtain⟨k4,k5⟩:=YA hd.1
     cases hb0:runB s.now (nth s.runs n) with
     | false=>
      rw[QoG hg hn hb0]
      by_cases hat:0<=(nth s.runs n).at'/\(nth s.runs n).at'<=1000000000
      ·have c6:=Y1 (x:=(nth s.runs n).at')
       repeat'(first|(refine zhm fun hb=>?_;try exact zab)|refine zUrn ?_|refine zg2 ?_ ?_|intro _|fail)
       all_goals first
        | (exfalso;have:=(Vn (now:=s.now) (x:=nth s.runs n)).2 ⟨hd.1,by omega,by omega,by omega⟩;rw[hb0]at this;cases this;done)
        | skip
       any_goals
        show AWp _ _ _ _
        refine QD ?_
        apply Qt
        refine zm () [] trivial ?_ ?_ ?_
        repeat'(first|exact ze3|refine ze2 ?_ ?_|refine ze4 ?_|exact ze5|fail)
        all_goals exact zp rfl
      ·have c6:=Y1 (x:=(nth s.runs n).at')
       rw[show inB (nth s.runs n).at' 0 1000000000=false by rw[Qlk];omega]at c6
       repeat'(first|(refine zhm fun hb=>?_;try exact zab)|refine zUr ?_|refine zg2 ?_ ?_|(apply YE;first|refine zom ?_|(apply QOk.ok;refine ZC rfl rfl rfl rfl rfl rfl ?_))|refine zln fun _=>?_|refine zon ?_|refine zqj c5 ?_|refine zqj c6 ?_|fail)
       exact zDR
     | true=>
      obtain⟨k1,k2,k3⟩:=Vn.1 hb0
      have c6:=Y1 (x:=(nth s.runs n).at')
      have c7:=Qc9 (j:={ (nth s.runs n).job with wall:=(nth s.runs n).at'+(nth s.runs n).job.wall-s.now }) (a:=s.now) hg.ok (hs.rno n hn) h2
      have hjo:Qu { (nth s.runs n).job with wall:=(nth s.runs n).at'+(nth s.runs n).job.wall-s.now }=true:=by
       have:=k1
       simp only[Qu,Xaf,Yr]at this ⊢
       exact⟨⟨this.1.1,by omega⟩,this.2⟩
      rw[QgT (j:=(nth s.runs n).job) k1 hjo rfl rfl rfl]at c7
      dsimp only at c7
      rw[show s.now+((nth s.runs n).at'+(nth s.runs n).job.wall-s.now)=(nth s.runs n).at'+(nth s.runs n).job.wall by omega]at c7
      cases hq:resO r (nth s.runs n).job s.now ((nth s.runs n).at'+(nth s.runs n).job.wall) (nth s.runs n).nodes with
      | none=>
       rw[hq]at c7
       rw[QoC hg hn hq]
       repeat'(first|(refine zhm fun hb=>?_;try exact zab)|refine zUrn ?_|refine zg2 ?_ ?_|refine kmu c7 ?_|intro _|fail)
       exact zDR
      | some r'=>
       rw[hq]at c7
       have hst:=QtM hg hn hb0 hq
       repeat'(first|(refine zhm fun hb=>?_;try exact zab)|refine zUrn ?_|refine zg2 ?_ ?_|refine kmu c7 ?_|intro _|fail)
       exact⟨(n+1,r'),hst,by dsimp only;omega,zll⟩
   ·rw[Qtx hg hn]
    repeat'(first|(refine zhm fun hb=>?_;try exact zab)|refine zUrp ?_|refine zg2 ?_ ?_|intro _|fail)
    exact zDR
 ·rw[Qgh hB]
  cases he:empO s with
  | none=>
   rw[he]at c1
   repeat'(first|(refine zhm fun hb=>?_;try exact zab)|refine zUrp ?_|refine zg2 ?_ ?_|refine kmu c1 ?_|intro _|fail)
   exact zDR
  | some r0=>
   rw[he]at c1
   rw[show inB s.now 0 1000000000=false by
    rw[Qlk]
    rcases Classical.em (0<=s.now/\s.now<=1000000000)with h|h
    ·exact absurd (QgI.2 ⟨by rw[he];rfl,h⟩) hB
    ·omega]at c3
   repeat'(first|(refine zhm fun hb=>?_;try exact zab)|refine zUrp ?_|refine zg2 ?_ ?_|refine kmu c1 ?_|intro _|fail)
   exact zDR
end
end Go.Proofs.YtihgfennoalocaaGreat
