/-
  Runs that end: what goes and what stays; the method and the function that drop them; the copies they start from.
-/
import Derived.Test.YtihgfennoalocaaGreatKB7
import Derived.Test.YtihgfennoalocaaGreatKB26
import Derived.Test.YtihgfennoalocaaGreatKB8
set_option maxRecDepth 100000
set_option maxHeartbeats 16000000
namespace Go.Proofs.YtihgfennoalocaaGreat
open Go Go.RowKit Tryz
section
attribute [local irreducible] AWp QJ OpOk ACalls ChA QsOk MCalls NCalls EnC PY

def YO(p:Run->Bool)(l:List Run):List Job:=(l.filter p).map Run.job
def JS(p:Run->Bool)(l:List Run):List Run:=l.filter fun r=>!p r
def QS(now why:Int)(p:Run->Bool)(l:List Run):List Qb5:=(l.filter p).map fun r=>⟨r.job.id,now,why⟩
theorem Qdy{p:Run->Bool}{l:List Run}{i:Nat}(h:i<l.length)(hp:p (nth l i)=true):YO p (l.take (i+1))=YO p (l.take i)++[(nth l i).job]:=by
 rw[YO,QI h,List.filter_append,List.map_append];simp[YO,hp]
theorem Qgk{p:Run->Bool}{l:List Run}{i:Nat}(h:i<l.length)(hp:p (nth l i)=false):YO p (l.take (i+1))=YO p (l.take i):=by
 rw[YO,QI h,List.filter_append,List.map_append];simp[YO,hp]
theorem Va{p:Run->Bool}{l:List Run}{i:Nat}(h:i<l.length)(hp:p (nth l i)=true):JS p (l.take (i+1))=JS p (l.take i):=by
 rw[JS,QI h,List.filter_append];simp[JS,hp]
theorem QaE{p:Run->Bool}{l:List Run}{i:Nat}(h:i<l.length)(hp:p (nth l i)=false):JS p (l.take (i+1))=JS p (l.take i)++[nth l i]:=by
 rw[JS,QI h,List.filter_append];simp[JS,hp]
theorem Vf{now why:Int}{p:Run->Bool}{l:List Run}{i:Nat}(h:i<l.length)(hp:p (nth l i)=true):QS now why p (l.take (i+1))=QS now why p (l.take i)++[⟨(nth l i).job.id,now,why⟩]:=by
 rw[QS,QI h,List.filter_append,List.map_append];simp[QS,hp]
theorem Qaj{now why:Int}{p:Run->Bool}{l:List Run}{i:Nat}(h:i<l.length)(hp:p (nth l i)=false):QS now why p (l.take (i+1))=QS now why p (l.take i):=by
 rw[QS,QI h,List.filter_append,List.map_append];simp[QS,hp]
theorem ZA{p:Run->Bool}{l:List Run}{i:Nat}:(JS p (l.take i)).length<=i:=Xao (Xa1 _ _) (by rw[Xai];omega)
theorem Qdu{p:Run->Bool}{l:List Run}{i:Nat}:(YO p (l.take i)).length<=i:=by rw[YO,Xah];exact Xao (Xa1 _ _) (by rw[Xai];omega)
theorem Z8{now why:Int}{p:Run->Bool}{l:List Run}{i:Nat}:(QS now why p (l.take i)).length<=i:=by rw[QS,Xah];exact Xao (Xa1 _ _) (by rw[Xai];omega)
theorem YJ(l:List Qb5)(e:Qb5):endE l++[[.n .i64 e.id,.n .i64 e.at',.n .i64 e.why]]=endE (l++[e]):=by simp[endE]
theorem ZR(l:List Run)(r:Run):runE l++[[.n .i64 r.job.id,.n .i64 r.job.prio,.n .i64 r.job.nodes,.n .i64 r.job.need.a,.n .i64 r.job.need.b,.n .i64 r.job.need.c,.n .i64 r.job.lic.a,.n .i64 r.job.lic.b,.n .i64 r.job.lic.c,.n .i64 r.job.wall,.n .i64 r.job.level,.n .i64 r.at',.sl (intE r.nodes)]]=runE (l++[r]):=by simp[runE]
def drop(s:Qd)(why:Int)(p:Run->Bool):Qd:={ s with runs:=JS p s.runs,ends:=s.ends++QS s.now why p s.runs }
@[reducible] def Qsx (s:Qd) (u:List (List D)) (q1 q2:Nat) (v:AV):List AV:=[zL (intE s.topo.parents),zL (Qz s.topo.nodes),zL u,zI s.lic.a,zI s.lic.b,zI s.lic.c,zI s.depth,zI s.now,.row q1,v,.row q2]
theorem Qol{s:Qd}{why:Int}{p:Run->Bool}{g:FuncId}{ds:List D}{u:List (List D)}(hs:Ql 100000000 s)(hg:∀r,r∈s.runs->zAc g [runA r,.pd ds 0] [.d (.b (p r))] []):NCalls Tryz.prog 255 [.ptr 1000000 0,zI why,.clo g [.pd ds 0]] [(1000000,.box 49 (Qsx s u 500001 500002 (zL (runE s.runs)))),(500001,.row 72 (jobE s.queue) true),(500002,.row 172 (endE s.ends) true)] (fun _:Unit=>True) (fun _=>[.row 3]) (fun _=>[(1000000,.box 49 (Qsx s u 0 2 (.row 1))),(0,.row 72 (jobE s.queue) true),(1,.row 170 (runE (JS p s.runs)) false),(2,.row 172 (endE (s.ends++QS s.now why p s.runs)) true),(3,.row 72 (jobE (YO p s.runs)) true)]):=by
 refine Ve tt func255 rfl rfl rfl (fun _ _=>rfl) (fun w0 Z O=>?_)
 refine J8 500002 62 rfl ?_
 have hl:=Qf s.runs
 have h5:=hs.run
 have h6:=hs.end'
 repeat'(first|(apply ZE;iterate 10 exact rfl)|(refine zhm fun hb=>?_;try exact zab)|refine Qe ?_|(apply zch;exact zcg)|exact zhk|refine zg3 ?_ ?_|intro _|fail)
 refine Vz 8 8 170 rfl rfl rfl ?_
 refine Wm 8 rfl ?_
 refine Qa (fun(k:Nat)=>⟨58,[(0,.ptr 1000000 0),(1,zI why),(2,.clo g [.pd ds 0]),(7,.row 11),(8,.row 8),(15,zL (runE s.runs)),(16,zI (s.runs.length:Nat)),(17,zI k)],[(1000000,.box 49 (Qsx s u 500001 62 (zL (runE s.runs)))),(500001,.row 72 (jobE s.queue) true),(62,.row 172 (endE (s.ends++QS s.now why p (s.runs.take k))) true),(8,.row 170 (runE (JS p (s.runs.take k))) false),(11,.row 72 (jobE (YO p (s.runs.take k))) true)]⟩) (fun k=>k<=s.runs.length) (fun k=>s.runs.length-k) 0 (by exact Xab _) ?_ ?_
 ·refine⟨rfl,?_,?_,rfl⟩
  repeat'(first|exact ze3|refine ze2 ?_ ?_|refine ze4 ?_|exact ze5|fail)
  all_goals exact zp (by first|rfl|(simp[QS];done))
 ·intro k hk
  have hd1:=Qk (YO p (s.runs.take k))
  have hd2:=Qf (JS p (s.runs.take k))
  have hd3:=QC (s.ends++QS s.now why p (s.runs.take k))
  have hd7:(s.ends++QS s.now why p (s.runs.take k)).length=s.ends.length+(QS s.now why p (s.runs.take k)).length:=Xac
  have hd4:=Qdu (p:=p) (l:=s.runs) (i:=k)
  have hd5:=ZA (p:=p) (l:=s.runs) (i:=k)
  have hd6:=Z8 (now:=s.now) (why:=why) (p:=p) (l:=s.runs) (i:=k)
  by_cases hk':k<s.runs.length
  ·cases hp:p (nth s.runs k) with
   | true=>
    have c1:=hg (nth s.runs k) (QO hk')
    rw[hp]at c1
    have e1:=Qdy hk' hp
    have e2:=Va hk' hp
    have e3:=Vf (now:=s.now) (why:=why) hk' hp
    generalize YO p (s.runs.take k)=gj at *
    generalize QS s.now why p (s.runs.take k)=ge at *
    repeat'(first|(apply ZE;iterate 10 exact rfl)|(refine zhm fun hb=>?_;try exact zab)|refine Q7 ?_|(apply zch;exact zcg)|exact zhk|refine zg3 ?_ ?_|refine kv (c1) rfl rfl rfl rfl rfl ?_|intro _|fail)
    refine⟨k+1,by omega,by omega,?_⟩
    refine⟨rfl,?_,?_,rfl⟩
    repeat'(first|exact ze3|refine ze2 ?_ ?_|refine ze4 ?_|exact ze5|fail)
    all_goals exact zp (by first|rfl|(rw[e2];done)|(rw[e1];exact Yw _ _)|(rw[e3,<-Xaq];exact YJ _ ⟨_,_,_⟩))
   | false=>
    have c1:=hg (nth s.runs k) (QO hk')
    rw[hp]at c1
    have e1:=Qgk hk' hp
    have e2:=QaE hk' hp
    have e3:=Qaj (now:=s.now) (why:=why) hk' hp
    repeat'(first|(apply ZE;iterate 10 exact rfl)|(refine zhm fun hb=>?_;try exact zab)|refine Q7 ?_|(apply zch;exact zcg)|exact zhk|refine zg3 ?_ ?_|refine kv (c1) rfl rfl rfl rfl rfl ?_|intro _|fail)
    refine⟨k+1,by omega,by omega,?_⟩
    refine⟨rfl,?_,?_,rfl⟩
    repeat'(first|exact ze3|refine ze2 ?_ ?_|refine ze4 ?_|exact ze5|fail)
    all_goals exact zp (by first|rfl|(rw[e1];done)|(rw[e3];done)|(rw[e2];exact ZR _ _))
  ·obtain rfl:k=s.runs.length:=by omega
   rw[Xap]at *
   repeat'(first|(apply ZE;iterate 10 exact rfl)|(refine zhm fun hb=>?_;try exact zab)|refine Q7 ?_|(apply zch;exact zcg)|exact zhk|refine zg3 ?_ ?_|intro _|fail)
   show AWp _ _ _ _
   apply Qt
   refine zn () [500001,8,62,11] (by exact trivial) ?_ ?_
   all_goals exact zae

def Ys(id node:Int)(r:Run):Bool:=(r.job.id==id)||hasI r.nodes node
theorem Qnn{id node:Int}{r:Run}(h:r.job.id=id):Ys id node r=true:=by simp[Ys,h]
theorem QoN{id node:Int}{r:Run}(h:hasI r.nodes node=true):Ys id node r=true:=by simp[Ys,h]
theorem QnO{id node:Int}{r:Run}(h:r.job.id≠id)(h2:hasI r.nodes node=false):Ys id node r=false:=by simp[Ys,h,h2]
@[reducible] def QbY (s:Qd) (u:AV) (v:AV) (q:Nat):List AV:=[zL (intE s.topo.parents),zL (Qz s.topo.nodes),u,zI s.lic.a,zI s.lic.b,zI s.lic.c,zI s.depth,zI s.now,zL (jobE s.queue),v,.row q]
theorem Qhk{s:Qd}{why id node:Int}(hs:Ql 100000000 s):NCalls Tryz.prog 236 [.agg (QbY s (zL (Qq s.up)) (zL (runE s.runs)) 500000),zI why,zI id,zI node] [(500000,.row 172 (endE s.ends) true)] (fun _:Unit=>True) (fun _=>[.agg (QbY s (zL (Qq s.up)) (.row 0) 1)]) (fun _=>[(0,.row 170 (runE (JS (Ys id node) s.runs)) false),(1,.row 172 (endE (s.ends++QS s.now why (Ys id node) s.runs)) true)]):=by
 refine Ve tt func236 rfl rfl rfl (fun _ _=>rfl) (fun w0 Z O=>?_)
 have hl:=Qf s.runs
 have h5:=hs.run
 have h6:=hs.end'
 repeat'(first|(refine zhm fun hb=>?_;try exact zab)|refine zUtp ?_|refine zg2 ?_ ?_|intro _|fail)
 refine Wm 12 rfl ?_
 refine Qa (fun(k:Nat)=>⟨51,[(1,zI why),(2,zI id),(3,zI node),(4,.ptr 4 0),(8,.ptr 8 0),(9,.row 12),(14,zL (runE s.runs)),(15,zI (s.runs.length:Nat)),(16,zI k)],[(4,.box 49 (QbY s (zL (Qq s.up)) (zL (runE s.runs)) 500000)),(8,.box 49 [.nil,.nil,.nil,zI 0,zI 0,zI 0,zI 0,zI 0,.nil,.nil,.nil]),(500000,.row 172 (endE (s.ends++QS s.now why (Ys id node) (s.runs.take k))) true),(12,.row 170 (runE (JS (Ys id node) (s.runs.take k))) false)]⟩) (fun k=>k<=s.runs.length) (fun k=>s.runs.length-k) 0 (by exact Xab _) ?_ ?_
 ·refine⟨rfl,?_,?_,rfl⟩
  repeat'(first|exact ze3|refine ze2 ?_ ?_|refine ze4 ?_|exact ze5|fail)
  all_goals exact zp (by first|rfl|(simp[QS];done))
 ·intro k hk
  have hd2:=Qf (JS (Ys id node) (s.runs.take k))
  have hd3:=QC (s.ends++QS s.now why (Ys id node) (s.runs.take k))
  have hd7:(s.ends++QS s.now why (Ys id node) (s.runs.take k)).length=s.ends.length+(QS s.now why (Ys id node) (s.runs.take k)).length:=Xac
  have hd5:=ZA (p:=Ys id node) (l:=s.runs) (i:=k)
  have hd6:=Z8 (now:=s.now) (why:=why) (p:=Ys id node) (l:=s.runs) (i:=k)
  by_cases hk':k<s.runs.length
  ·have hno:=hs.rno k hk'
   have c3:=Wp (l:=(nth s.runs k).nodes) (x:=node) (by omega)
   by_cases h1:(nth s.runs k).job.id=id
   ·have hp:=Qnn (node:=node) h1
    have e2:=Va hk' hp
    have e3:=Vf (now:=s.now) (why:=why) hk' hp
    generalize QS s.now why (Ys id node) (s.runs.take k)=ge at *
    repeat'(first|(refine zhm fun hb=>?_;try exact zab)|refine zUrp ?_|refine zg2 ?_ ?_|intro _|fail)
    refine⟨k+1,by omega,by omega,?_⟩
    refine⟨rfl,?_,?_,rfl⟩
    repeat'(first|exact ze3|refine ze2 ?_ ?_|refine ze4 ?_|exact ze5|fail)
    all_goals exact zp (by first|rfl|(rw[e2];done)|(rw[e3,<-Xaq];exact YJ _ ⟨_,_,_⟩))
   ·cases h2:hasI (nth s.runs k).nodes node with
    | true=>
     rw[h2]at c3
     have hp:=QoN (id:=id) h2
     have e2:=Va hk' hp
     have e3:=Vf (now:=s.now) (why:=why) hk' hp
     generalize QS s.now why (Ys id node) (s.runs.take k)=ge at *
     repeat'(first|(refine zhm fun hb=>?_;try exact zab)|refine zUrp ?_|refine zg2 ?_ ?_|intro _|fail)
     refine⟨k+1,by omega,by omega,?_⟩
     refine⟨rfl,?_,?_,rfl⟩
     repeat'(first|exact ze3|refine ze2 ?_ ?_|refine ze4 ?_|exact ze5|fail)
     all_goals exact zp (by first|rfl|(rw[e2];done)|(rw[e3,<-Xaq];exact YJ _ ⟨_,_,_⟩))
    | false=>
     rw[h2]at c3
     have hp:=QnO h1 h2
     have e2:=QaE hk' hp
     have e3:=Qaj (now:=s.now) (why:=why) hk' hp
     repeat'(first|(refine zhm fun hb=>?_;try exact zab)|refine zUrp ?_|refine zg2 ?_ ?_|intro _|fail)
     refine⟨k+1,by omega,by omega,?_⟩
     refine⟨rfl,?_,?_,rfl⟩
     repeat'(first|exact ze3|refine ze2 ?_ ?_|refine ze4 ?_|exact ze5|fail)
     all_goals exact zp (by first|rfl|(rw[e3];done)|(rw[e2];exact ZR _ _))
  ·obtain rfl:k=s.runs.length:=by omega
   rw[Xap]at *
   repeat'(first|(refine zhm fun hb=>?_;try exact zab)|refine zUrp ?_|refine zg2 ?_ ?_|intro _|fail)
   show AWp _ _ _ _
   apply Qt
   refine zn () [12,500000] (by exact trivial) ?_ ?_
   all_goals exact zae
theorem Qpe{s:Qd}{why id node:Int}(hs:Ql 100000000 s):NCalls Tryz.prog 236 [.agg (QbY s (.row 500000) (zL (runE s.runs)) 500001),zI why,zI id,zI node] [(500000,.row 4 (Qq s.up) true),(500001,.row 172 (endE s.ends) true)] (fun _:Unit=>True) (fun _=>[.agg (QbY s (.row 2) (.row 0) 1)]) (fun _=>[(0,.row 170 (runE (JS (Ys id node) s.runs)) false),(1,.row 172 (endE (s.ends++QS s.now why (Ys id node) s.runs)) true),(2,.row 4 (Qq s.up) true)]):=by
 refine Ve tt func236 rfl rfl rfl (fun _ _=>rfl) (fun w0 Z O=>?_)
 have hl:=Qf s.runs
 have h5:=hs.run
 have h6:=hs.end'
 repeat'(first|(refine zhm fun hb=>?_;try exact zab)|refine zUtp ?_|refine zg2 ?_ ?_|intro _|fail)
 refine Wm 12 rfl ?_
 refine Qa (fun(k:Nat)=>⟨51,[(1,zI why),(2,zI id),(3,zI node),(4,.ptr 4 0),(8,.ptr 8 0),(9,.row 12),(14,zL (runE s.runs)),(15,zI (s.runs.length:Nat)),(16,zI k)],[(4,.box 49 (QbY s (.row 500000) (zL (runE s.runs)) 500001)),(8,.box 49 [.nil,.nil,.nil,zI 0,zI 0,zI 0,zI 0,zI 0,.nil,.nil,.nil]),(500000,.row 4 (Qq s.up) true),(500001,.row 172 (endE (s.ends++QS s.now why (Ys id node) (s.runs.take k))) true),(12,.row 170 (runE (JS (Ys id node) (s.runs.take k))) false)]⟩) (fun k=>k<=s.runs.length) (fun k=>s.runs.length-k) 0 (by exact Xab _) ?_ ?_
 ·refine⟨rfl,?_,?_,rfl⟩
  repeat'(first|exact ze3|refine ze2 ?_ ?_|refine ze4 ?_|exact ze5|fail)
  all_goals exact zp (by first|rfl|(simp[QS];done))
 ·intro k hk
  have hd2:=Qf (JS (Ys id node) (s.runs.take k))
  have hd3:=QC (s.ends++QS s.now why (Ys id node) (s.runs.take k))
  have hd7:(s.ends++QS s.now why (Ys id node) (s.runs.take k)).length=s.ends.length+(QS s.now why (Ys id node) (s.runs.take k)).length:=Xac
  have hd5:=ZA (p:=Ys id node) (l:=s.runs) (i:=k)
  have hd6:=Z8 (now:=s.now) (why:=why) (p:=Ys id node) (l:=s.runs) (i:=k)
  by_cases hk':k<s.runs.length
  ·have hno:=hs.rno k hk'
   have c3:=Wp (l:=(nth s.runs k).nodes) (x:=node) (by omega)
   by_cases h1:(nth s.runs k).job.id=id
   ·have hp:=Qnn (node:=node) h1
    have e2:=Va hk' hp
    have e3:=Vf (now:=s.now) (why:=why) hk' hp
    generalize QS s.now why (Ys id node) (s.runs.take k)=ge at *
    repeat'(first|(refine zhm fun hb=>?_;try exact zab)|refine zUrp ?_|refine zg2 ?_ ?_|intro _|fail)
    refine⟨k+1,by omega,by omega,?_⟩
    refine⟨rfl,?_,?_,rfl⟩
    repeat'(first|exact ze3|refine ze2 ?_ ?_|refine ze4 ?_|exact ze5|fail)
    all_goals exact zp (by first|rfl|(rw[e2];done)|(rw[e3,<-Xaq];exact YJ _ ⟨_,_,_⟩))
   ·cases h2:hasI (nth s.runs k).nodes node with
    | true=>
     rw[h2]at c3
     have hp:=QoN (id:=id) h2
     have e2:=Va hk' hp
     have e3:=Vf (now:=s.now) (why:=why) hk' hp
     generalize QS s.now why (Ys id node) (s.runs.take k)=ge at *
     repeat'(first|(refine zhm fun hb=>?_;try exact zab)|refine zUrp ?_|refine zg2 ?_ ?_|intro _|fail)
     refine⟨k+1,by omega,by omega,?_⟩
     refine⟨rfl,?_,?_,rfl⟩
     repeat'(first|exact ze3|refine ze2 ?_ ?_|refine ze4 ?_|exact ze5|fail)
     all_goals exact zp (by first|rfl|(rw[e2];done)|(rw[e3,<-Xaq];exact YJ _ ⟨_,_,_⟩))
    | false=>
     rw[h2]at c3
     have hp:=QnO h1 h2
     have e2:=QaE hk' hp
     have e3:=Qaj (now:=s.now) (why:=why) hk' hp
     repeat'(first|(refine zhm fun hb=>?_;try exact zab)|refine zUrp ?_|refine zg2 ?_ ?_|intro _|fail)
     refine⟨k+1,by omega,by omega,?_⟩
     refine⟨rfl,?_,?_,rfl⟩
     repeat'(first|exact ze3|refine ze2 ?_ ?_|refine ze4 ?_|exact ze5|fail)
     all_goals exact zp (by first|rfl|(rw[e3];done)|(rw[e2];exact ZR _ _))
  ·obtain rfl:k=s.runs.length:=by omega
   rw[Xap]at *
   repeat'(first|(refine zhm fun hb=>?_;try exact zab)|refine zUrp ?_|refine zg2 ?_ ?_|intro _|fail)
   show AWp _ _ _ _
   apply Qt
   refine zn () [12,500001,500000] (by exact trivial) ?_ ?_
   all_goals exact zae
end
section
def keyL:List (Nat×AO)->List Nat
 | []=>[]
 | (n,_)::l=>n::keyL l
theorem Qjf:∀(l:List (Nat×AO)),keyL l=l.map Prod.fst
 | []=>rfl
 | (n,_)::l=>by rw[keyL,Qjf l];rfl
def kept2(ρ ks:List Nat)(n:Nat):Bool:=bif inN ρ n then ks.any (fun m=>bif fre0 m then false else Nat.beq (ρ.getD (m-1000000) 0) n)else true
def back2(f:Nat->Bool)(t:Nat)(ρ:List Nat)(ob:List (Nat×AO))(ks:List Nat):Bool:=YI (ks.map (Jv t ρ))&&ks.all fun m=>bif fre0 m then Yz f (Jo t m) ob else true
theorem Qqi(ρ:List Nat)(fin:List (Nat×AO)):X5 ρ fin=kept2 ρ (keyL fin):=by
 funext n
 unfold X5 kept2
 rw[Qjf,List.any_map]
 rfl
theorem Qp0{f:Nat->Bool}{t:Nat}{ρ:List Nat}{ob fin:List (Nat×AO)}(h:back2 f t ρ ob (keyL fin)=true):Ql3 f t ρ ob fin=true:=by
 unfold back2 at h
 unfold Ql3
 rw[Qjf,XaS,List.all_map]at h
 exact h
theorem kn2{X:Cx}{σ:AS}{o:Oper}{K:AS->Prop}{t:Nat}{ι:Type}{f:FuncId}{ws:Array Operand}{ats:Array TypeId}{xs:List AV}{obs:List (Nat×AO)}{ok:ι->Prop}{rs:ι->List AV}{fin:ι->List (Nat×AO)}(ρ:List Nat)(hc:NCalls X.P f xs obs ok rs fin)
  (ho:o.op=.call { callee:=.value (.func f),args:=ws,argTypes:=ats }) (hx:σ.handNA ρ ws.toList=some xs)
  (hK:∀i,ok i->K ⟨σ.nt,(t,(one (rs i)).mapN (Jv t ρ))::cutS (kept2 ρ (keyL (fin i))) σ.sl,finO t ρ (fin i)++Ya (inN ρ) (kept2 ρ (keyL (fin i))) σ.ob⟩)
  (hd:o.dst=some t:=by exact rfl) (hob:σ.handedN ρ 0 ρ=some obs:=by exact rfl) (hn:YI ρ=true:=by exact rfl) (hno:Wy obs=true:=by exact rfl)
  (hf:∀i,ok i->back2 X.fre t ρ σ.ob (keyL (fin i))=true:=by exact fun _ _=>rfl) (ht:Nat.blt t σ.nt=true:=by exact rfl):OpOk X o σ K:=
 Qj4 ρ hc ho hd hx hob hn hno (fun i hi=>Qp0 (hf i hi)) ht (fun i hi=>by rw[Qqi];exact hK i hi)
end
section
attribute [local irreducible] AWp QJ OpOk ACalls ChA QsOk MCalls NCalls EnC PY

@[reducible] def stEw (s:Qd) (a b c q1 q2:Nat) (v:AV):List AV:=[.row a,.row b,.row c,zI s.lic.a,zI s.lic.b,zI s.lic.c,zI s.depth,zI s.now,.row q1,v,.row q2]
theorem QsE{s:Qd}{why:Int}{p:Run->Bool}{g:FuncId}{ds:List D}(hs:Ql 100000000 s)(hg:∀r,r∈s.runs->zAc g [runA r,.pd ds 0] [.d (.b (p r))] []):NCalls Tryz.prog 255 [.ptr 1000000 0,zI why,.clo g [.pd ds 0]] [(1000000,.box 49 (stEw s 500001 500002 500003 500004 500005 (zL (runE s.runs)))),(500001,.row 3 (intE s.topo.parents) true),(500002,.row 225 (Qz s.topo.nodes) true),(500003,.row 4 (Qq s.up) true),(500004,.row 72 (jobE s.queue) true),(500005,.row 172 (endE s.ends) true)] (fun _:Unit=>True) (fun _=>[.row 3]) (fun _=>[(1000000,.box 49 (stEw s 4 5 6 0 2 (.row 1))),(0,.row 72 (jobE s.queue) true),(1,.row 170 (runE (JS p s.runs)) false),(2,.row 172 (endE (s.ends++QS s.now why p s.runs)) true),(3,.row 72 (jobE (YO p s.runs)) true),(4,.row 3 (intE s.topo.parents) true),(5,.row 225 (Qz s.topo.nodes) true),(6,.row 4 (Qq s.up) true)]):=by
 refine Ve tt func255 rfl rfl rfl (fun _ _=>rfl) (fun w0 Z O=>?_)
 refine J8 500005 62 rfl ?_
 have hl:=Qf s.runs
 have h5:=hs.run
 have h6:=hs.end'
 repeat'(first|(apply ZE;iterate 10 exact rfl)|(refine zhm fun hb=>?_;try exact zab)|refine Qe ?_|(apply zch;exact zcg)|exact zhk|refine zg3 ?_ ?_|intro _|fail)
 refine Vz 8 8 170 rfl rfl rfl ?_
 refine Wm 8 rfl ?_
 refine Qa (fun(k:Nat)=>⟨58,[(0,.ptr 1000000 0),(1,zI why),(2,.clo g [.pd ds 0]),(7,.row 11),(8,.row 8),(15,zL (runE s.runs)),(16,zI (s.runs.length:Nat)),(17,zI k)],[(1000000,.box 49 (stEw s 500001 500002 500003 500004 62 (zL (runE s.runs)))),(500001,.row 3 (intE s.topo.parents) true),(500002,.row 225 (Qz s.topo.nodes) true),(500003,.row 4 (Qq s.up) true),(500004,.row 72 (jobE s.queue) true),(62,.row 172 (endE (s.ends++QS s.now why p (s.runs.take k))) true),(8,.row 170 (runE (JS p (s.runs.take k))) false),(11,.row 72 (jobE (YO p (s.runs.take k))) true)]⟩) (fun k=>k<=s.runs.length) (fun k=>s.runs.length-k) 0 (by exact Xab _) ?_ ?_
 ·refine⟨rfl,?_,?_,rfl⟩
  repeat'(first|exact ze3|refine ze2 ?_ ?_|refine ze4 ?_|exact ze5|fail)
  all_goals exact zp (by first|rfl|(simp[QS];done))
 ·intro k hk
  have hd1:=Qk (YO p (s.runs.take k))
  have hd2:=Qf (JS p (s.runs.take k))
  have hd3:=QC (s.ends++QS s.now why p (s.runs.take k))
  have hd7:(s.ends++QS s.now why p (s.runs.take k)).length=s.ends.length+(QS s.now why p (s.runs.take k)).length:=Xac
  have hd4:=Qdu (p:=p) (l:=s.runs) (i:=k)
  have hd5:=ZA (p:=p) (l:=s.runs) (i:=k)
  have hd6:=Z8 (now:=s.now) (why:=why) (p:=p) (l:=s.runs) (i:=k)
  by_cases hk':k<s.runs.length
  ·cases hp:p (nth s.runs k) with
   | true=>
    have c1:=hg (nth s.runs k) (QO hk')
    rw[hp]at c1
    have e1:=Qdy hk' hp
    have e2:=Va hk' hp
    have e3:=Vf (now:=s.now) (why:=why) hk' hp
    generalize YO p (s.runs.take k)=gj at *
    generalize QS s.now why p (s.runs.take k)=ge at *
    repeat'(first|(apply ZE;iterate 10 exact rfl)|(refine zhm fun hb=>?_;try exact zab)|refine Q7 ?_|(apply zch;exact zcg)|exact zhk|refine zg3 ?_ ?_|refine kv (c1) rfl rfl rfl rfl rfl ?_|intro _|fail)
    refine⟨k+1,by omega,by omega,?_⟩
    refine⟨rfl,?_,?_,rfl⟩
    repeat'(first|exact ze3|refine ze2 ?_ ?_|refine ze4 ?_|exact ze5|fail)
    all_goals exact zp (by first|rfl|(rw[e2];done)|(rw[e1];exact Yw _ _)|(rw[e3,<-Xaq];exact YJ _ ⟨_,_,_⟩))
   | false=>
    have c1:=hg (nth s.runs k) (QO hk')
    rw[hp]at c1
    have e1:=Qgk hk' hp
    have e2:=QaE hk' hp
    have e3:=Qaj (now:=s.now) (why:=why) hk' hp
    repeat'(first|(apply ZE;iterate 10 exact rfl)|(refine zhm fun hb=>?_;try exact zab)|refine Q7 ?_|(apply zch;exact zcg)|exact zhk|refine zg3 ?_ ?_|refine kv (c1) rfl rfl rfl rfl rfl ?_|intro _|fail)
    refine⟨k+1,by omega,by omega,?_⟩
    refine⟨rfl,?_,?_,rfl⟩
    repeat'(first|exact ze3|refine ze2 ?_ ?_|refine ze4 ?_|exact ze5|fail)
    all_goals exact zp (by first|rfl|(rw[e1];done)|(rw[e3];done)|(rw[e2];exact ZR _ _))
  ·obtain rfl:k=s.runs.length:=by omega
   rw[Xap]at *
   repeat'(first|(apply ZE;iterate 10 exact rfl)|(refine zhm fun hb=>?_;try exact zab)|refine Q7 ?_|(apply zch;exact zcg)|exact zhk|refine zg3 ?_ ?_|intro _|fail)
   show AWp _ _ _ _
   apply Qt
   refine zn () [500004,8,62,11,500001,500002,500003] (by exact trivial) ?_ ?_
   all_goals exact zae
end
section

mutual
def AV.rsb(p n:Nat):AV->AV
 | .row o=>if Nat.beq o p=true then .sub p 0 n else .row o
 | .agg xs=>.agg (rsbL p n xs)
 | .tup xs=>.tup (rsbL p n xs)
 | .nil=>.nil
 | .clo g xs=>.clo g xs
 | .sub o i j=>.sub o i j
 | .any=>.any
 | .d x=>.d x
 | .ptr o i=>.ptr o i
 | .pr o i j=>.pr o i j
 | .pd e i=>.pd e i
def rsbL(p n:Nat):List AV->List AV
 | []=>[]
 | x::xs=>x.rsb p n::rsbL p n xs
end
section
variable {w:World} {en:List Ent} {I:Nat->Prop} {p n:Nat}
def Qs7(en:List Ent)(p n:Nat):Prop:=∀x∈en,x.nm=p->n<=x.ao.lens.length/\∃A m c z,x.val=.slice A m c/\(∀l∈x.ao.lens,l=z)/\x.val=subV A c z 0 n
mutual
theorem AV.shows_rsb(hy:Qs7 en p n):∀(x:AV) (u:Value),x.shows w en I u->(x.rsb p n).shows w en I u
 | .row o,u,h=>by
  unfold AV.rsb
  by_cases he:Nat.beq o p=true
  ·rw[if_pos he]
   obtain⟨y,h1,h2,h3,h4⟩:=h
   have e:=Nat.eq_of_beq_eq_true he
   subst e
   obtain⟨k1,A,m,c,z,k2,k3,k4⟩:=hy y h1 h2
   exact⟨y,h1,h2,h3,⟨Xab _,k1⟩,A,m,c,z,k2,k3,by rw[h4,k4]⟩
  ·rw[if_neg he]
   exact h
 | .agg xs,u,h=>by
  obtain⟨us,h1,h2⟩:=h
  exact⟨us,h1,Qa0 hy xs us h2⟩
 | .tup xs,u,h=>by
  obtain⟨us,h1,h2⟩:=h
  exact⟨us,h1,Qa0 hy xs us h2⟩
 | .nil,_,h=>h
 | .any,_,h=>h
 | .d _,_,h=>h
 | .ptr _ _,_,h=>h
 | .pr _ _ _,_,h=>h
 | .pd _ _,_,h=>h
 | .clo _ _,_,h=>h
 | .sub _ _ _,_,h=>h
theorem Qa0(hy:Qs7 en p n):∀(xs:List AV) (us:List Value),Qn w en I xs us->Qn w en I (rsbL p n xs) us
 | [],_,h=>h
 | x::xs,us,h=>by
  obtain⟨u,us',h1,h2,h3⟩:=h
  exact⟨u,us',h1,AV.shows_rsb hy x u h2,Qa0 hy xs us' h3⟩
end
end
theorem QjF(A:Option Addr)(c z n:Nat):subV A c z 0 n=.slice A n c:=by
 unfold subV
 rw[Xbh,Xby,Xby]
 split
 ·rfl
 ·cases A with
  | none=>rfl
  | some a=>simp[Addr.add]
theorem Qbd(t p:Nat){X:Cx}{c:Code}{Q:Exit->AS->Prop}{σ:AS}{e:TypeId}{es:List (List D)}{dp:Bool}(hp:Qm σ.ob p=some (.row e es dp))(h:AWp X c Q (σ.put t ((look σ.sl t).rsb p es.length))):AWp X c Q σ:=fun a w ⟨en,hr⟩=>by
 refine h a w ⟨en,⟨hr.mem,hr.ob,hr.defers,hr.size,fun s=>?_⟩⟩
 have hy:Qs7 en p es.length:=fun x hx hn=>by
  obtain⟨y,h1,h2,h3⟩:=hr.ent hp
  obtain rfl:=hr.mem.ent_unique hx h1 (hn.trans h2.symm)
  have hok:=hr.mem.ok x hx
  unfold EntOk at hok
  rw[h3]at hok
  obtain⟨z,us,k0,k1,k2,k3,k4,k5,k6,k7⟩:=hok
  rw[h3]
  refine⟨by simp[AO.lens],?_⟩
  have hz:∀l∈(AO.row e es dp).lens,l=z:=fun l hl=>by
   obtain⟨el,hel,rfl⟩:=Xad.1 hl
   exact k3 el hel
  rcases k2.2 with ⟨hv,h0⟩|⟨g,cap,cur,hv,_⟩
  ·refine⟨none,0,0,z,hv,hz,?_⟩
   have:es.length=0:=h0
   rw[QjF,this,hv]
  ·refine⟨some ⟨g,0,none⟩,es.length,cap,z,hv,hz,?_⟩
   rw[QjF,hv]
 simp only[AS.put,QM]
 split
 ·rename_i e1
  subst e1
  exact AV.shows_rsb hy _ _ (hr.slots t)
 ·exact hr.slots s
end
end Go.Proofs.YtihgfennoalocaaGreat
