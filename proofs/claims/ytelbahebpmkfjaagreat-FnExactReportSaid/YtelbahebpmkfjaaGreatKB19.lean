/-
  Jobs that wait or run; queues; both.
-/
import Derived.Test.YtelbahebpmkfjaaGreatKB7
import Derived.Test.YtelbahebpmkfjaaGreatKB20
set_option maxRecDepth 100000
set_option maxHeartbeats 16000000
namespace Go.Proofs.YtelbahebpmkfjaaGreat
open Go Go.RowKit
attribute [local irreducible] AWp Qat OpOk ACalls ChA QsOk MCalls EnC PY

theorem Qb2 (l:List Job) (j:Job):jobE l++[[.n .i64 j.id,.n .i64 j.prio,.n .i64 j.nodes,.n .i64 j.need.a,.n .i64 j.need.b,.n .i64 j.need.c,.n .i64 j.lic.a,.n .i64 j.lic.b,.n .i64 j.lic.c,.n .i64 j.wall,.n .i64 j.level]]=jobE (l++[j]):=by simp [jobE]
theorem QtC (l l':List Job):jobE l++jobE l'=jobE (l++l'):=by simp [jobE]
theorem Qvm {s:State} (hs:Small 1000000000 s):DC Tryz.prog 188 [QaA s] [.d (.sl (jobE (allJ s)))]:=by
 refine Qag tt Tryz.func188 rfl rfl rfl trivial (fun _ _=>⟨trivial,trivial⟩) (fun w0 Z O=>?_)
 have hql:=Qak s.queue
 have hqs:=hs.que
 have hrs:=hs.run
 have hrl:=Qah s.runs
 repeat' (first|refine zst ?_|(refine zhm fun hb=>?_;try exact zab)|refine zg2 ?_ ?_|refine zln fun _=>?_|refine zop ?_|fail)
 refine Qae (fun (i:Nat)=>⟨24,[(3,.row 6),(11,.d (.sl (runE s.runs))),(12,.d (.n .i64 (s.runs.length:Nat))),(13,.d (.n .i64 i))],[(6,.row 78 (jobE (s.queue++(s.runs.take i).map Run.job)) true)]⟩) (fun i=>i≤s.runs.length) (fun i=>s.runs.length - i) 0 (by exact Nat.zero_le _) ?_ ?_
 ·refine ⟨rfl,?_,?_,rfl⟩
  repeat'(first|apply And.intro|exact ze0|refine ze1 ?_|refine zei ?_ ?_|exact rfl|trivial)
  all_goals exact Stop.mk (by first|rfl|exact Qah _|(simp only [List.take_zero,List.map_nil,List.append_nil,List.nil_append];done)|simp [jobE])
 ·intro i hi
  have hal:(jobE (s.queue++(s.runs.take i).map Run.job)).length=s.queue.length+i:=by
   rw [Qak,List.length_append,List.length_map,List.length_take];omega
  have hal2:(s.queue++(s.runs.take i).map Run.job).length=s.queue.length+i:=by
   rw [List.length_append,List.length_map,List.length_take];omega
  by_cases hi':i<s.runs.length
  ·repeat' (first|refine zst ?_|(refine zhm fun hb=>?_;try exact zab)|refine zg2 ?_ ?_|refine zln fun _=>?_|refine zop ?_|fail)
   refine ⟨i+1,by omega,by omega,?_⟩
   refine ⟨rfl,?_,?_,rfl⟩
   repeat'(first|apply And.intro|exact ze0|refine ze1 ?_|refine zei ?_ ?_|exact rfl|trivial)
   all_goals exact Stop.mk (by first|rfl|(rw [Qas hi',List.map_append,←List.append_assoc];exact Qb2 _ _))
  ·repeat' (first|refine zsr ?_|(refine zhm fun hb=>?_;try exact zab)|refine zg2 ?_ ?_|refine zln fun _=>?_|refine zop ?_|fail)
   show AWp _ _ _ _
   refine Qav 6 rfl ?_
   refine Qac ?_
   apply Qab
   refine zm () [] trivial ?_ ?_ ?_
   repeat'(first|apply And.intro|exact ze0|refine ze1 ?_|refine zei ?_ ?_|exact rfl|trivial)
   all_goals exact Stop.mk (by first|rfl|(rw [List.take_of_length_le (by omega)];rfl))
theorem Qf0 {s:State} (hs:Small 1000000000 s):DC Tryz.prog 182 [QaA s] [.d (.sl (jobE (allJ s)))]:=by
 refine Qag tt Tryz.func182 rfl rfl rfl trivial (fun _ _=>⟨trivial,trivial⟩) (fun w0 Z O=>?_)
 have hql:=Qak s.queue
 have hqs:=hs.que
 have hrs:=hs.run
 have hrl:=Qah s.runs
 repeat' (first|refine zst ?_|(refine zhm fun hb=>?_;try exact zab)|refine zg2 ?_ ?_|refine zln fun _=>?_|refine zop ?_|fail)
 refine Qae (fun (i:Nat)=>⟨24,[(3,.row 6),(11,.d (.sl (runE s.runs))),(12,.d (.n .i64 (s.runs.length:Nat))),(13,.d (.n .i64 i))],[(6,.row 78 (jobE (s.queue++(s.runs.take i).map Run.job)) true)]⟩) (fun i=>i≤s.runs.length) (fun i=>s.runs.length - i) 0 (by exact Nat.zero_le _) ?_ ?_
 ·refine ⟨rfl,?_,?_,rfl⟩
  repeat'(first|apply And.intro|exact ze0|refine ze1 ?_|refine zei ?_ ?_|exact rfl|trivial)
  all_goals exact Stop.mk (by first|rfl|exact Qah _|(simp only [List.take_zero,List.map_nil,List.append_nil,List.nil_append];done)|simp [jobE])
 ·intro i hi
  have hal:(jobE (s.queue++(s.runs.take i).map Run.job)).length=s.queue.length+i:=by
   rw [Qak,List.length_append,List.length_map,List.length_take];omega
  have hal2:(s.queue++(s.runs.take i).map Run.job).length=s.queue.length+i:=by
   rw [List.length_append,List.length_map,List.length_take];omega
  by_cases hi':i<s.runs.length
  ·repeat' (first|refine zst ?_|(refine zhm fun hb=>?_;try exact zab)|refine zg2 ?_ ?_|refine zln fun _=>?_|refine zop ?_|fail)
   refine ⟨i+1,by omega,by omega,?_⟩
   refine ⟨rfl,?_,?_,rfl⟩
   repeat'(first|apply And.intro|exact ze0|refine ze1 ?_|refine zei ?_ ?_|exact rfl|trivial)
   all_goals exact Stop.mk (by first|rfl|(rw [Qas hi',List.map_append,←List.append_assoc];exact Qb2 _ _))
  ·repeat' (first|refine zsr ?_|(refine zhm fun hb=>?_;try exact zab)|refine zg2 ?_ ?_|refine zln fun _=>?_|refine zop ?_|fail)
   show AWp _ _ _ _
   refine Qav 6 rfl ?_
   refine Qac ?_
   apply Qab
   refine zm () [] trivial ?_ ?_ ?_
   repeat'(first|apply And.intro|exact ze0|refine ze1 ?_|refine zei ?_ ?_|exact rfl|trivial)
   all_goals exact Stop.mk (by first|rfl|(rw [List.take_of_length_le (by omega)];rfl))
def idxF {α:Type} (l:List α) (p:α→Bool):Int:=if l.any p=true then ((l.findIdx p:Nat):Int) else -1
theorem Qxb {α:Type} [Inhabited α] {l:List α} {p:α→Bool} (h:∀j,j<l.length→p (nth l j)=false):l.any p=false:=by
 cases e:l.any p with
 | false=>rfl
 | true=>
  obtain ⟨x,hx,hp⟩:=List.any_eq_true.1 e
  obtain ⟨j,hj,rfl⟩:=QbB hx
  rw [h j hj] at hp
  cases hp
theorem Qqu {α:Type} [Inhabited α] {l:List α} {p:α→Bool} {j:Nat} (hj:j<l.length) (h:p (nth l j)=true):l.any p=true:=List.any_eq_true.2 ⟨_,QaO hj,h⟩
theorem QkJ {α:Type} [Inhabited α] {l:List α} {p:α→Bool} {i:Nat} (hi:i<l.length) (h:p (nth l i)=true) (hp:∀j,j<i→p (nth l j)=false):idxF l p=i:=by
 unfold idxF
 rw [if_pos (Qqu hi h)]
 congr 1
 rw [List.findIdx_eq hi]
 refine ⟨by rw [←Qa8 hi];exact h,fun j hj=>?_⟩
 have:=hp j hj
 rwa [Qa8 (by omega)] at this
theorem QrJ {α:Type} [Inhabited α] {l:List α} {p:α→Bool} (h:∀j,j<l.length→p (nth l j)=false):idxF l p = -1:=by
 unfold idxF
 rw [if_neg (by rw [Qxb h];decide)]
theorem QhJ {α:Type} (l:List α) (p:α→Bool):decide (0≤idxF l p)=l.any p:=by
 unfold idxF
 cases h:l.any p with
 | true=>rw [if_pos rfl];simp
 | false=>rw [if_neg (by decide)];decide
theorem QiM {l:List Job} {p:Job→Bool} {g:FuncId} {ds:List D} (h:l.length≤1000000000) (hg:∀j,ACalls Tryz.prog g [jobA j,.pd ds 0] [.d (.b (p j))] []):ACalls Tryz.prog 260 [.d (.sl (jobE l)),.clo g [.pd ds 0]] [.d (.n .i64 (idxF l p))] []:=by
 refine Qaa tt Tryz.func260 rfl rfl rfl (fun w0 Z=>?_)
 have hl:=Qak l
 repeat' (first|refine zst ?_|(refine zhm fun hb=>?_;try exact zab)|refine zg2 ?_ ?_|refine zln fun _=>?_|refine zop ?_|fail)
 refine Qae (fun (i:Nat)=>⟨19,[(0,.d (.sl (jobE l))),(1,.clo g [.pd ds 0]),(7,.d (.n .i64 (l.length:Nat))),(8,.d (.n .i64 i))],[]⟩) (fun i=>i≤l.length∧∀j,j<i→p (nth l j)=false) (fun i=>l.length - i) 0 (by exact ⟨Nat.zero_le _,fun j hj=>absurd hj (Nat.not_lt_zero _)⟩) ?_ ?_
 ·refine ⟨rfl,?_,?_,rfl⟩
  repeat'(first|apply And.intro|exact ze0|refine ze1 ?_|refine zei ?_ ?_|exact rfl|trivial)
  all_goals exact Stop.mk (by first|rfl|exact Qak _)
 ·rintro i ⟨hi,hp⟩
  by_cases hi':i<l.length
  ·repeat' (first|refine zst ?_|(refine zhm fun hb=>?_;try exact zab)|refine zg2 ?_ ?_|refine zln fun _=>?_|refine zop ?_|refine kv (hg (nth l i)) rfl rfl rfl rfl rfl ?_|fail)
   ·rw [QkJ hi' (by assumption) hp]
    exact zr [] zae zae
   ·refine ⟨i+1,⟨by omega,fun j hj=>?_⟩,by omega,?_⟩
    ·by_cases e:j=i
     ·subst e;assumption
     ·exact hp j (by omega)
    exact ⟨rfl,zae,zae,rfl⟩
  ·rw [QrJ (fun j hj=>hp j (by omega))]
   repeat' (first|refine zst ?_|(refine zhm fun hb=>?_;try exact zab)|refine zg2 ?_ ?_|refine zln fun _=>?_|refine zop ?_|fail)
   exact zr [] zae zae
theorem Qjc {l:List Job} {p:Job→Bool} {g:FuncId} {ds:List D} (h:l.length≤1000000000) (hg:∀j,ACalls Tryz.prog g [jobA j,.pd ds 0] [.d (.b (p j))] []):ACalls Tryz.prog 254 [.d (.sl (jobE l)),.clo g [.pd ds 0]] [.d (.b (l.any p))] []:=by
 refine Qaa tt Tryz.func254 rfl rfl rfl (fun w0 Z=>?_)
 repeat' (first|refine zst ?_|(refine zhm fun hb=>?_;try exact zab)|refine zg2 ?_ ?_|refine zop ?_|refine kc (QiM h hg) rfl rfl ?_|fail)
 refine zr [] ?_ ?_
 repeat'(first|apply And.intro|exact ze0|refine ze1 ?_|refine zei ?_ ?_|exact rfl|trivial)
 all_goals exact Stop.mk (QhJ l p)
theorem Qok {l:List Job} {i:Nat} (hi:i<l.length) (h:Qau (nth l i)=false):Qb1 l=false:=pB_f.2 fun q=>by rw [q.jobs i hi] at h;cases h
theorem Qon {l:List Job} {i k:Nat} (hi:i<l.length) (hk:k<i) (h:(nth l k).id=(nth l i).id):Qb1 l=false:=pB_f.2 fun q=>q.diff i hi k hk h
theorem Qtn {l:List Job} (h:60<l.length):Qb1 l=false:=pB_f.2 fun q=>by have:=q.len;omega
theorem QqX {l:List Job} (h:∀i,i<l.length→Qau (nth l i)=true∧∀k,k<i→(nth l k).id≠(nth l i).id):Qb1 l=decide (l.length≤60):=by
 rw [Bool.eq_iff_iff,Qb1,pB_t,decide_eq_true_eq]
 exact ⟨fun q=>q.len,fun q=>⟨q,fun i hi=>(h i hi).1,fun i hi=>(h i hi).2⟩⟩
theorem QsY (l:List Job) (i:Nat):(List.drop 0 ((jobE l).take i))=jobE (l.take i):=by simp [jobE,List.map_take]
theorem Qpu {j k:Job}:ACalls Tryz.prog 255 [jobA k,.pd (jobD j) 0] [.d (.b (k.id==j.id))] []:=by
 refine Qaa tt Tryz.func255 rfl rfl rfl (fun w0 Z=>?_)
 repeat' (first|refine zsc ?_|(refine Hb.mk (fun hb=>?_);(first|rw [decide_eq_true_eq] at hb|rw [decide_eq_false_iff_not] at hb|skip);(first|(exfalso;omega)|(exact absurd rfl hb)|skip))|refine zg2 ?_ ?_|refine zop ?_|fail)
 exact zr [] zae zae
theorem QoK {α:Type} [Inhabited α] {l:List α} {i k:Nat} (h:k<i):nth (l.take i) k=nth l k:=by
 simp [nth,List.getD,List.getElem?_take_of_lt h]
theorem Qll {l:List Job} (h:l.length≤1000000000):ACalls Tryz.prog 187 [.d (.sl (jobE l))] [.d (.b (Qb1 l))] []:=by
 refine Qaa tt Tryz.func187 rfl rfl rfl (fun w0 Z=>?_)
 have hl:=Qak l
 repeat' (first|refine zst ?_|(refine zhm fun hb=>?_;try exact zab)|refine zg2 ?_ ?_|refine zln fun _=>?_|refine zop ?_|fail)
 refine Qae (fun (i:Nat)=>⟨26,[(0,.d (.sl (jobE l))),(5,.d (.sl (jobE l))),(6,.d (.n .i64 (l.length:Nat))),(7,.d (.n .i64 i))],[]⟩) (fun i=>i≤l.length∧∀j,j<i→Qau (nth l j)=true∧∀k,k<j→(nth l k).id≠(nth l j).id) (fun i=>l.length - i) 0 (by exact ⟨Nat.zero_le _,fun j hj=>absurd hj (Nat.not_lt_zero _)⟩) ?_ ?_
 ·refine ⟨rfl,?_,?_,rfl⟩
  repeat'(first|apply And.intro|exact ze0|refine ze1 ?_|refine zei ?_ ?_|exact rfl|trivial)
  all_goals exact Stop.mk (by first|rfl|exact Qak _)
 ·rintro i ⟨hi,hp⟩
  by_cases hi':i<l.length
  ·have hc:=Qjc (l:=l.take i) (p:=fun k=>k.id==(nth l i).id) (g:=255) (ds:=jobD (nth l i)) (by rw [List.length_take];omega) (fun k=>Qpu)
   rw [←QsY] at hc
   have htl:(l.take i).length=i:=by rw [List.length_take];omega
   repeat' (first|refine zst ?_|(refine zhm fun hb=>?_;try exact zab)|refine zg2 ?_ ?_|refine zln fun _=>?_|refine zop ?_|refine kc (QeC (j:=nth l i)) rfl rfl ?_|refine kc (hc) rfl rfl ?_|fail)
   ·rw [Qok hi' (by assumption)]
    exact zr [] zae zae
   ·obtain ⟨x,hx,he⟩:=List.any_eq_true.1 hb
    obtain ⟨k,hk,rfl⟩:=QbB hx
    rw [Qon hi' (by omega:k<i) (by rw [QoK (by omega)] at he;exact beq_iff_eq.1 he)]
    exact zr [] zae zae
   ·rename_i hjob hany
    refine ⟨i+1,⟨by omega,fun j hj=>?_⟩,by omega,?_⟩
    ·by_cases e:j=i
     ·subst e
      refine ⟨by assumption,fun k hk he=>?_⟩
      have:=Qqu (l:=l.take j) (p:=fun k=>k.id==(nth l j).id) (j:=k) (by omega) (by rw [QoK hk];exact beq_iff_eq.2 he)
      simp_all
     ·exact hp j (by omega)
    exact ⟨rfl,zae,zae,rfl⟩
  ·rw [QqX fun j hj=>hp j (by omega)]
   repeat' (first|refine zsc ?_|(refine Hb.mk (fun hb=>?_);(first|rw [decide_eq_true_eq] at hb|rw [decide_eq_false_iff_not] at hb|skip);(first|(exfalso;omega)|(exact absurd rfl hb)|skip))|refine zg2 ?_ ?_|refine zln fun _=>?_|refine zop ?_|fail)
   refine zr [] ?_ ?_
   repeat'(first|apply And.intro|exact ze0|refine ze1 ?_|refine zei ?_ ?_|exact rfl|trivial)
   all_goals exact Stop.mk (by first|rfl|exact decide_eq_decide.2 (by omega))
theorem Qh9 {l:List Job} (h:l.length≤1000000000):ACalls Tryz.prog 181 [.d (.sl (jobE l))] [.d (.b (Qb1 l))] []:=by
 refine Qaa tt Tryz.func181 rfl rfl rfl (fun w0 Z=>?_)
 have hl:=Qak l
 by_cases h60:60<l.length
 ·rw [Qtn h60]
  repeat' (first|refine zst ?_|(refine zhm fun hb=>?_;try exact zab)|refine zdr ?_|(apply zch;exact zcg)|refine HopS.mk fun w0 Z O=>?_|exact zhk|refine zg3 ?_ ?_|refine zln fun _=>?_|refine zop ?_|fail)
  exact zr [] zae zae
 ·repeat' (first|refine zst ?_|(refine zhm fun hb=>?_;try exact zab)|refine zdr ?_|(apply zch;exact zcg)|refine HopS.mk fun w0 Z O=>?_|exact zhk|refine zg3 ?_ ?_|refine zln fun _=>?_|refine zop ?_|fail)
  refine Qae (fun (i:Nat)=>⟨33,[(0,.d (.sl (jobE l))),(9,.d (.sl (jobE l))),(10,.d (.n .i64 (l.length:Nat))),(11,.d (.n .i64 i))],[]⟩) (fun i=>i≤l.length∧∀j,j<i→Qau (nth l j)=true∧∀k,k<j→(nth l k).id≠(nth l j).id) (fun i=>l.length - i) 0 (by exact ⟨Nat.zero_le _,fun j hj=>absurd hj (Nat.not_lt_zero _)⟩) ?_ ?_
  ·refine ⟨rfl,?_,?_,rfl⟩
   repeat'(first|apply And.intro|exact ze0|refine ze1 ?_|refine zei ?_ ?_|exact rfl|trivial)
   all_goals exact Stop.mk (by first|rfl|exact Qak _)
  ·rintro i ⟨hi,hp⟩
   by_cases hi':i<l.length
   ·have hc:=QiD (j:=nth l i)
    cases hj:Qau (nth l i) with
    | false=>
     rw [hj] at hc
     rw [Qok hi' hj]
     repeat' (first|refine zst ?_|(refine zhm fun hb=>?_;try exact zab)|refine zdr ?_|(apply zch;exact zcg)|refine HopS.mk fun w0 Z O=>?_|exact zhk|refine zg3 ?_ ?_|refine zln fun _=>?_|refine zop ?_|refine kc (hc) rfl rfl ?_|refine kq (hc) rfl rfl ?_|fail)
     exact zr [] zae zae
    | true=>
     rw [hj] at hc
     repeat' (first|refine zst ?_|(refine zhm fun hb=>?_;try exact zab)|refine zdr ?_|(apply zch;exact zcg)|refine HopS.mk fun w0 Z O=>?_|exact zhk|refine zg3 ?_ ?_|refine zln fun _=>?_|refine zop ?_|refine kc (hc) rfl rfl ?_|refine kq (hc) rfl rfl ?_|fail)
     refine Qae (fun (k:Nat)=>⟨33,[(0,.d (.sl (jobE l))),(3,.d (.n .i64 i)),(4,.ptr 4 0),(5,.d (.n .i64 k)),(9,.d (.sl (jobE l))),(10,.d (.n .i64 (l.length:Nat))),(11,.d (.n .i64 i))],[(4,.box 78 ((jobD (nth l i)).map AV.d))]⟩) (fun k=>k≤i∧∀m,m<k→(nth l m).id≠(nth l i).id) (fun k=>i - k) 0 (by exact ⟨Nat.zero_le _,fun j hj=>absurd hj (Nat.not_lt_zero _)⟩) ?_ ?_
     ·exact ⟨rfl,zae,zae,rfl⟩
     ·rintro k ⟨hk,hm⟩
      by_cases hk':k<i
      ·repeat' (first|refine zst ?_|(refine zhm fun hb=>?_;try exact zab)|refine zdr ?_|(apply zch;exact zcg)|refine HopS.mk fun w0 Z O=>?_|exact zhk|refine zg3 ?_ ?_|refine zln fun _=>?_|refine zop ?_|fail)
       ·rw [Qon hi' hk' (by assumption)]
        exact zr [] zae zae
       ·refine ⟨k+1,⟨by omega,fun m hm'=>?_⟩,by omega,?_⟩
        ·by_cases e:m=k
         ·subst e;assumption
         ·exact hm m (by omega)
        exact ⟨rfl,zae,zae,rfl⟩
      ·repeat' (first|refine zst ?_|(refine zhm fun hb=>?_;try exact zab)|refine zdr ?_|(apply zch;exact zcg)|refine HopS.mk fun w0 Z O=>?_|exact zhk|refine zg3 ?_ ?_|refine zln fun _=>?_|refine zop ?_|fail)
       refine ⟨i+1,⟨by omega,fun j hj'=>?_⟩,by omega,?_⟩
       ·by_cases e:j=i
        ·subst e;exact ⟨hj,fun m hm'=>hm m (by omega)⟩
        ·exact hp j (by omega)
       exact ⟨rfl,zae,zae,rfl⟩
   ·rw [QqX fun j hj=>hp j (by omega),decide_eq_true (by omega)]
    repeat' (first|refine zst ?_|(refine zhm fun hb=>?_;try exact zab)|refine zdr ?_|(apply zch;exact zcg)|refine HopS.mk fun w0 Z O=>?_|exact zhk|refine zg3 ?_ ?_|refine zln fun _=>?_|refine zop ?_|fail)
    exact zr [] zae zae
end Go.Proofs.YtelbahebpmkfjaaGreat
namespace Go.Proofs.YtelbahebpmkfjaaGreat
open Go Go.RowKit
attribute [local irreducible] AWp Qat OpOk ACalls ChA QsOk MCalls EnC PY

theorem Qlo {s:State}:BaseP s↔(empO s).isSome=true∧0≤s.now∧s.now≤1000000000:=by
 constructor
 ·intro h
  rw [Qlx h.topo h.up h.lic]
  exact ⟨rfl,h.now⟩
 ·rintro ⟨h,hn⟩
  unfold empO at h
  split at h
  ·rename_i hc
   simp only [Bool.and_eq_true,decide_eq_true_eq] at hc
   exact ⟨Qbz.1 hc.1.1,hc.1.2,hc.2,hn⟩
  ·cases h
theorem Qoi {s:State} (hs:Small 1000000000 s):DC Tryz.prog 176 [QaA s] (QfB (Qbu s)):=by
 refine Qag tt Tryz.func176 rfl rfl rfl trivial (fun _ _=>⟨trivial,trivial⟩) (fun w0 Z O=>?_)
 have c1:=Qo0 hs
 have c3:=Qce (x:=s.now)
 by_cases hB:BaseP s
 ·have h1:=hB.up
  have h2:=hB.now
  have h3:=hB.topo.nlen
  have h4:=hB.topo.len
  rw [Qlx hB.topo hB.up hB.lic] at c1
  rw [show inB s.now 0 1000000000=true by rw [QcM];exact h2] at c3
  rw [Qkt hB]
  repeat' (first|refine zst ?_|(refine zhm fun hb=>?_;try exact zab)|refine zg2 ?_ ?_|refine zln fun _=>?_|refine zop ?_|refine kc (c3) rfl rfl ?_|(refine km [] (c1) rfl rfl (fun i hi=>?_);(try dsimp only at hi))|fail)
  refine Qae (fun (k:Nat×Room)=>⟨93,[(1,.ptr 1 0),(2,.ptr 2 0),(4,.ptr 4 0),(27,.d (.sl (runE s.runs))),(28,.d (.n .i64 (s.runs.length:Nat))),(29,.d (.n .i64 k.1))],[(1,.box 43 (Qbw s)),(2,.box 212 [.nil,.nil,.nil,.nil,.nil]),(4,.box 212 (QgP k.2))]⟩) (fun k=>GoP s k.1 k.2) (fun k=>s.runs.length - k.1) (0,Qa5 s.topo s.up s.lic) (by exact ⟨Nat.zero_le _,QdM hB.topo h1 hB.lic,rfl⟩) ?_ ?_
  ·refine ⟨rfl,?_,?_,rfl⟩
   repeat'(first|apply And.intro|exact ze0|refine ze1 ?_|refine zei ?_ ?_|exact rfl|trivial)
   all_goals exact Stop.mk (by first|rfl|exact Qah _)
  ·rintro ⟨n,r⟩ hg
   dsimp only at hg ⊢
   have hle:=hg.le
   have hrl:=Qah s.runs
   by_cases hn:n<s.runs.length
   ·have c5:=QiX (j:=(nth s.runs n).job) (l:=(nth s.runs n).nodes) hg.ok (hs.rno n hn)
    cases hd:(Qau (nth s.runs n).job&&QeS r.topo (nth s.runs n).job (nth s.runs n).nodes) with
    | false=>
     rw [hd] at c5
     have hnone:Qdp s.now s.runs (Qa5 s.topo s.up s.lic)=none:=by
      cases hb0:runB s.now (nth s.runs n) with
      | false=>exact Qqb hg hn hb0
      | true=>
       refine QsD hg hn ?_
       cases hj:Qau (nth s.runs n).job with
       | false=>exact QiC hj
       | true=>rw [hj,Bool.true_and] at hd;exact Qip hd
     rw [hnone]
     repeat' (first|refine zsr ?_|(refine zhm fun hb=>?_;try exact zab)|refine zg2 ?_ ?_|(apply Qcj;first|refine zom ?_|(apply QOk.ok;refine Qgl rfl rfl rfl rfl rfl rfl ?_))|refine zln fun _=>?_|refine zop ?_|refine kc (c5) rfl rfl ?_|fail)
     show AWp _ _ _ _
     refine Qac ?_
     apply Qab
     exact zm () [] trivial zae zae zae
    | true=>
     rw [hd] at c5
     rw [Bool.and_eq_true] at hd
     obtain ⟨k4,k5⟩:=Qcg hd.1
     cases hb0:runB s.now (nth s.runs n) with
     | false=>
      rw [Qqb hg hn hb0]
      by_cases hat:0≤(nth s.runs n).at'∧(nth s.runs n).at'≤1000000000
      ·have c6:=Qce (x:=(nth s.runs n).at')
       repeat' (first|refine zsr ?_|(refine zhm fun hb=>?_;try exact zab)|refine zg2 ?_ ?_|refine zln fun _=>?_|refine zon ?_|refine kc (c5) rfl rfl ?_|refine kc (c6) rfl rfl ?_|fail)
       all_goals first
        | (exfalso;have:=(QdN (now:=s.now) (x:=nth s.runs n)).2 ⟨hd.1,by omega,by omega,by omega⟩;rw [hb0] at this;cases this;done)
        | skip
       any_goals
        show AWp _ _ _ _
        refine Qac ?_
        apply Qab
        refine zm () [] trivial ?_ ?_ ?_
        repeat'(first|apply And.intro|exact ze0|refine ze1 ?_|refine zei ?_ ?_|exact rfl|trivial)
        all_goals exact Stop.mk rfl
      ·have c6:=Qce (x:=(nth s.runs n).at')
       rw [show inB (nth s.runs n).at' 0 1000000000=false by rw [QpC];omega] at c6
       repeat' (first|refine zsr ?_|(refine zhm fun hb=>?_;try exact zab)|refine zg2 ?_ ?_|(apply Qcj;first|refine zom ?_|(apply QOk.ok;refine Qgl rfl rfl rfl rfl rfl rfl ?_))|refine zln fun _=>?_|refine zon ?_|refine kc (c5) rfl rfl ?_|refine kc (c6) rfl rfl ?_|fail)
       show AWp _ _ _ _
       refine Qac ?_
       apply Qab
       exact zm () [] trivial zae zae zae
     | true=>
      obtain ⟨k1,k2,k3⟩:=QdN.1 hb0
      have c6:=Qce (x:=(nth s.runs n).at')
      have c7:=Qik (j:={ (nth s.runs n).job with wall:=(nth s.runs n).at'+(nth s.runs n).job.wall - s.now }) (a:=s.now) hg.ok (hs.rno n hn) h2
      have hjo:Qau { (nth s.runs n).job with wall:=(nth s.runs n).at'+(nth s.runs n).job.wall - s.now }=true:=by
       have:=k1
       simp only [Qau,Bool.and_eq_true,QcM] at this ⊢
       exact ⟨⟨this.1.1,by omega⟩,this.2⟩
      rw [QlS (j:=(nth s.runs n).job) k1 hjo rfl rfl rfl] at c7
      dsimp only at c7
      rw [show s.now+((nth s.runs n).at'+(nth s.runs n).job.wall - s.now)=(nth s.runs n).at'+(nth s.runs n).job.wall by omega] at c7
      cases hq:resO r (nth s.runs n).job s.now ((nth s.runs n).at'+(nth s.runs n).job.wall) (nth s.runs n).nodes with
      | none=>
       rw [hq] at c7
       rw [QsD hg hn hq]
       repeat' (first|refine zsr ?_|(refine zhm fun hb=>?_;try exact zab)|refine zg2 ?_ ?_|refine zln fun _=>?_|refine zon ?_|refine kc (c5) rfl rfl ?_|refine kc (c6) rfl rfl ?_|(refine km [] (c7) rfl rfl (fun i hi=>?_);(try dsimp only at hi))|fail)
       show AWp _ _ _ _
       refine Qac ?_
       apply Qab
       exact zm () [] trivial zae zae zae
      | some r'=>
       rw [hq] at c7
       have hst:=Qwp hg hn hb0 hq
       repeat' (first|refine zsr ?_|(refine zhm fun hb=>?_;try exact zab)|refine zg2 ?_ ?_|refine zln fun _=>?_|refine zon ?_|refine kc (c5) rfl rfl ?_|refine kc (c6) rfl rfl ?_|(refine km [] (c7) rfl rfl (fun i hi=>?_);(try dsimp only at hi))|fail)
       refine ⟨(n+1,r'),hst,by dsimp only;omega,?_⟩
       exact ⟨rfl,zae,zae,rfl⟩
   ·rw [Qwj hg hn]
    repeat' (first|refine zsr ?_|(refine zhm fun hb=>?_;try exact zab)|refine zg2 ?_ ?_|refine zln fun _=>?_|refine zop ?_|fail)
    show AWp _ _ _ _
    refine Qac ?_
    apply Qab
    exact zm () [] trivial zae zae zae
 ·rw [Qko hB]
  cases he:empO s with
  | none=>
   rw [he] at c1
   repeat' (first|refine zsr ?_|(refine zhm fun hb=>?_;try exact zab)|refine zg2 ?_ ?_|refine zln fun _=>?_|refine zop ?_|(refine km [] (c1) rfl rfl (fun i hi=>?_);(try dsimp only at hi))|fail)
   show AWp _ _ _ _
   refine Qac ?_
   apply Qab
   exact zm () [] trivial zae zae zae
  | some r0=>
   rw [he] at c1
   rw [show inB s.now 0 1000000000=false by
    rw [QpC]
    rcases Classical.em (0≤s.now∧s.now≤1000000000) with h|h
    ·exact absurd (Qlo.2 ⟨by rw [he];rfl,h⟩) hB
    ·omega] at c3
   repeat' (first|refine zsr ?_|(refine zhm fun hb=>?_;try exact zab)|refine zg2 ?_ ?_|refine zln fun _=>?_|refine zop ?_|refine kc (c3) rfl rfl ?_|(refine km [] (c1) rfl rfl (fun i hi=>?_);(try dsimp only at hi))|fail)
   show AWp _ _ _ _
   refine Qac ?_
   apply Qab
   exact zm () [] trivial zae zae zae
end Go.Proofs.YtelbahebpmkfjaaGreat
