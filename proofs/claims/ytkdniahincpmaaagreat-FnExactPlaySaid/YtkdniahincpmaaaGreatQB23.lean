/-
  Runs that end: what goes and what stays; the method and the function that drop them; the copies they start from.
-/
import Derived.Test.YtkdniahincpmaaaGreatQB24
set_option maxRecDepth 100000
set_option maxHeartbeats 16000000
namespace Go.Proofs.YtkdniahincpmaaaGreat
open Go Go.RowKit Tryz
section
attribute [local irreducible] AWp QM OpOk ACalls ChA QsOk MCalls NCalls EnC PY

def YR(p:Run->Bool)(l:List Run):List Job:=(l.filter p).map Run.job
def JU(p:Run->Bool)(l:List Run):List Run:=l.filter fun r=>!p r
def QR(now why:Int)(p:Run->Bool)(l:List Run):List QbO:=(l.filter p).map fun r=>⟨r.job.id,now,why⟩
theorem Qey{p:Run->Bool}{l:List Run}{i:Nat}(h:i<l.length)(hp:p (nth l i)=true):YR p (l.take (i+1))=YR p (l.take i)++[(nth l i).job]:=by
 rw[YR,QF h,List.filter_append,List.map_append];simp[YR,hp]
theorem Qg3{p:Run->Bool}{l:List Run}{i:Nat}(h:i<l.length)(hp:p (nth l i)=false):YR p (l.take (i+1))=YR p (l.take i):=by
 rw[YR,QF h,List.filter_append,List.map_append];simp[YR,hp]
theorem VE{p:Run->Bool}{l:List Run}{i:Nat}(h:i<l.length)(hp:p (nth l i)=true):JU p (l.take (i+1))=JU p (l.take i):=by
 rw[JU,QF h,List.filter_append];simp[JU,hp]
theorem Qbn{p:Run->Bool}{l:List Run}{i:Nat}(h:i<l.length)(hp:p (nth l i)=false):JU p (l.take (i+1))=JU p (l.take i)++[nth l i]:=by
 rw[JU,QF h,List.filter_append];simp[JU,hp]
theorem VF{now why:Int}{p:Run->Bool}{l:List Run}{i:Nat}(h:i<l.length)(hp:p (nth l i)=true):QR now why p (l.take (i+1))=QR now why p (l.take i)++[⟨(nth l i).job.id,now,why⟩]:=by
 rw[QR,QF h,List.filter_append,List.map_append];simp[QR,hp]
theorem QaX{now why:Int}{p:Run->Bool}{l:List Run}{i:Nat}(h:i<l.length)(hp:p (nth l i)=false):QR now why p (l.take (i+1))=QR now why p (l.take i):=by
 rw[QR,QF h,List.filter_append,List.map_append];simp[QR,hp]
theorem Xl{p:Run->Bool}{l:List Run}{i:Nat}:(JU p (l.take i)).length<=i:=Xam (Xa2 _ _) (by rw[Xah];omega)
theorem QeC{p:Run->Bool}{l:List Run}{i:Nat}:(YR p (l.take i)).length<=i:=by rw[YR,Xar];exact Xam (Xa2 _ _) (by rw[Xah];omega)
theorem Z8{now why:Int}{p:Run->Bool}{l:List Run}{i:Nat}:(QR now why p (l.take i)).length<=i:=by rw[QR,Xar];exact Xam (Xa2 _ _) (by rw[Xah];omega)
theorem Y5(l:List QbO)(e:QbO):endE l++[[.n .i64 e.id,.n .i64 e.at',.n .i64 e.why]]=endE (l++[e]):=by simp[endE]
theorem Z7(l:List Run)(r:Run):runE l++[[.n .i64 r.job.id,.n .i64 r.job.prio,.n .i64 r.job.nodes,.n .i64 r.job.need.a,.n .i64 r.job.need.b,.n .i64 r.job.need.c,.n .i64 r.job.lic.a,.n .i64 r.job.lic.b,.n .i64 r.job.lic.c,.n .i64 r.job.wall,.n .i64 r.job.level,.n .i64 r.at',.sl (intE r.nodes)]]=runE (l++[r]):=by simp[runE]
def drop(s:Qb)(why:Int)(p:Run->Bool):Qb:={ s with runs:=JU p s.runs,ends:=s.ends++QR s.now why p s.runs }
@[reducible] def QuP (s:Qb) (u:List (List D)) (q1 q2:Nat) (v:AV):List AV:=[zL (intE s.topo.parents),zL (Qr s.topo.nodes),zL u,zI s.lic.a,zI s.lic.b,zI s.lic.c,zI s.depth,zI s.now,.row q1,v,.row q2]
theorem Qpd{s:Qb}{why:Int}{p:Run->Bool}{g:FuncId}{ds:List D}{u:List (List D)}(hs:Qo 100000000 s)(hg:∀r,r∈s.runs->zAc g [runA r,.pd ds 0] [.d (.b (p r))] []):NCalls Tryz.prog 244 [.ptr 1000000 0,zI why,.clo g [.pd ds 0]] [(1000000,.box 34 (QuP s u 500001 500002 (zL (runE s.runs)))),(500001,.row 40 (jobE s.queue) true),(500002,.row 123 (endE s.ends) true)] (fun _:Unit=>True) (fun _=>[.row 3]) (fun _=>[(1000000,.box 34 (QuP s u 0 2 (.row 1))),(0,.row 40 (jobE s.queue) true),(1,.row 66 (runE (JU p s.runs)) false),(2,.row 123 (endE (s.ends++QR s.now why p s.runs)) true),(3,.row 40 (jobE (YR p s.runs)) true)]):=by
 refine Ve tt func244 rfl rfl rfl (fun _ _=>rfl) (fun w0 Z O=>?_)
 refine Yh 500002 62 rfl ?_
 have hl:=Qe s.runs
 have h5:=hs.run
 have h6:=hs.end'
 repeat'(first|(apply XH;iterate 10 exact rfl)|(refine zhm fun hb=>?_;try exact zab)|refine Qd ?_|(apply zch;exact zcg)|exact zhk|refine zg3 ?_ ?_|intro _)
 refine Zn 8 8 66 rfl rfl rfl ?_
 refine WW 8 rfl ?_
 refine Qa (fun(k:Nat)=>⟨58,[(0,.ptr 1000000 0),(1,zI why),(2,.clo g [.pd ds 0]),(7,.row 11),(8,.row 8),(15,zL (runE s.runs)),(16,zI (s.runs.length:Nat)),(17,zI k)],[(1000000,.box 34 (QuP s u 500001 62 (zL (runE s.runs)))),(500001,.row 40 (jobE s.queue) true),(62,.row 123 (endE (s.ends++QR s.now why p (s.runs.take k))) true),(8,.row 66 (runE (JU p (s.runs.take k))) false),(11,.row 40 (jobE (YR p (s.runs.take k))) true)]⟩) (fun k=>k<=s.runs.length) (fun k=>s.runs.length-k) 0 (by exact Xae _) ?_ ?_
 ·refine zag ?_;exact zp (by(simp[QR];done))
 ·intro k hk
  have m:=Qj (YR p (s.runs.take k))
  have n:=Qe (JU p (s.runs.take k))
  have o:=QJ (s.ends++QR s.now why p (s.runs.take k))
  have w:(s.ends++QR s.now why p (s.runs.take k)).length=s.ends.length+(QR s.now why p (s.runs.take k)).length:=Xab
  have q:=QeC (p:=p) (l:=s.runs) (i:=k)
  have t:=Xl (p:=p) (l:=s.runs) (i:=k)
  have v:=Z8 (now:=s.now) (why:=why) (p:=p) (l:=s.runs) (i:=k)
  by_cases a:k<s.runs.length
  ·cases c:p (nth s.runs k) with
   | true=>
    have e:=hg (nth s.runs k) (QE a)
    rw[c]at e
    have f:=Qey a c
    have h:=VE a c
    have j:=VF (now:=s.now) (why:=why) a c
    generalize YR p (s.runs.take k)=gj at *
    generalize QR s.now why p (s.runs.take k)=ge at *
    repeat'(first|(apply XH;iterate 10 exact rfl)|(refine zhm fun hb=>?_;try exact zab)|refine Q2 ?_|(apply zch;exact zcg)|exact zhk|refine zg3 ?_ ?_|refine kv (e) rfl rfl rfl rfl rfl ?_|intro _)
    refine⟨k+1,by omega,by omega,?_⟩
    refine⟨rfl,?_,?_,rfl⟩
    repeat'(first|exact ze3|refine ze2 ?_ ?_|refine ze4 ?_|exact ze5|fail)
    all_goals exact zp (by first|rfl|(rw[h];done)|(rw[f];exact YF _ _)|(rw[j,<-Xao];exact Y5 _ ⟨_,_,_⟩))
   | false=>
    have e:=hg (nth s.runs k) (QE a)
    rw[c]at e
    have f:=Qg3 a c
    have h:=Qbn a c
    have j:=QaX (now:=s.now) (why:=why) a c
    repeat'(first|(apply XH;iterate 10 exact rfl)|(refine zhm fun hb=>?_;try exact zab)|refine Q2 ?_|(apply zch;exact zcg)|exact zhk|refine zg3 ?_ ?_|refine kv (e) rfl rfl rfl rfl rfl ?_|intro _)
    refine⟨k+1,by omega,by omega,?_⟩
    refine⟨rfl,?_,?_,rfl⟩
    repeat'(first|exact ze3|refine ze2 ?_ ?_|refine ze4 ?_|exact ze5|fail)
    all_goals exact zp (by first|rfl|(rw[f];done)|(rw[j];done)|(rw[h];exact Z7 _ _))
  ·obtain rfl:k=s.runs.length:=by omega
   rw[Xal]at *
   repeat'(first|(apply XH;iterate 10 exact rfl)|(refine zhm fun hb=>?_;try exact zab)|refine Q2 ?_|(apply zch;exact zcg)|exact zhk|refine zg3 ?_ ?_|intro _)
   show AWp _ _ _ _
   apply Qs
   refine zn () [500001,8,62,11] (by exact trivial) ?_ ?_
   all_goals exact zae

def YQ(id node:Int)(r:Run):Bool:=(r.job.id==id)||hasI r.nodes node
theorem Qrv{id node:Int}{r:Run}(h:r.job.id=id):YQ id node r=true:=by simp[YQ,h]
theorem Qpz{id node:Int}{r:Run}(h:hasI r.nodes node=true):YQ id node r=true:=by simp[YQ,h]
theorem Qrm{id node:Int}{r:Run}(h:r.job.id≠id)(h2:hasI r.nodes node=false):YQ id node r=false:=by simp[YQ,h,h2]
@[reducible] def QcF (s:Qb) (u:AV) (v:AV) (q:Nat):List AV:=[zL (intE s.topo.parents),zL (Qr s.topo.nodes),u,zI s.lic.a,zI s.lic.b,zI s.lic.c,zI s.depth,zI s.now,zL (jobE s.queue),v,.row q]
theorem Qjq{s:Qb}{why id node:Int}(hs:Qo 100000000 s):NCalls Tryz.prog 317 [.agg (QcF s (zL (Qk s.up)) (zL (runE s.runs)) 500000),zI why,zI id,zI node] [(500000,.row 123 (endE s.ends) true)] (fun _:Unit=>True) (fun _=>[.agg (QcF s (zL (Qk s.up)) (.row 0) 1)]) (fun _=>[(0,.row 66 (runE (JU (YQ id node) s.runs)) false),(1,.row 123 (endE (s.ends++QR s.now why (YQ id node) s.runs)) true)]):=by
 refine Ve tt func317 rfl rfl rfl (fun _ _=>rfl) (fun w0 Z O=>?_)
 have hl:=Qe s.runs
 have h5:=hs.run
 have h6:=hs.end'
 repeat'(first|(refine zhm fun hb=>?_;try exact zab)|refine zUtp ?_|refine zg2 ?_ ?_|intro _)
 refine WW 12 rfl ?_
 refine Qa (fun(k:Nat)=>⟨51,[(1,zI why),(2,zI id),(3,zI node),(4,.ptr 4 0),(8,.ptr 8 0),(9,.row 12),(14,zL (runE s.runs)),(15,zI (s.runs.length:Nat)),(16,zI k)],[(4,.box 34 (QcF s (zL (Qk s.up)) (zL (runE s.runs)) 500000)),(8,.box 34 [.nil,.nil,.nil,zI 0,zI 0,zI 0,zI 0,zI 0,.nil,.nil,.nil]),(500000,.row 123 (endE (s.ends++QR s.now why (YQ id node) (s.runs.take k))) true),(12,.row 66 (runE (JU (YQ id node) (s.runs.take k))) false)]⟩) (fun k=>k<=s.runs.length) (fun k=>s.runs.length-k) 0 (by exact Xae _) ?_ ?_
 ·refine⟨rfl,?_,?_,rfl⟩
  repeat'(first|exact ze3|refine ze2 ?_ ?_|refine ze4 ?_|exact ze5|fail)
  all_goals exact zp (by first|rfl|(simp[QR];done))
 ·intro k hk
  have h:=Qe (JU (YQ id node) (s.runs.take k))
  have j:=QJ (s.ends++QR s.now why (YQ id node) (s.runs.take k))
  have o:(s.ends++QR s.now why (YQ id node) (s.runs.take k)).length=s.ends.length+(QR s.now why (YQ id node) (s.runs.take k)).length:=Xab
  have m:=Xl (p:=YQ id node) (l:=s.runs) (i:=k)
  have n:=Z8 (now:=s.now) (why:=why) (p:=YQ id node) (l:=s.runs) (i:=k)
  by_cases a:k<s.runs.length
  ·have q:=hs.rno k a
   have f:=WX (l:=(nth s.runs k).nodes) (x:=node) (by omega)
   by_cases g:(nth s.runs k).job.id=id
   ·have b:=Qrv (node:=node) g
    have c:=VE a b
    have d:=VF (now:=s.now) (why:=why) a b
    generalize QR s.now why (YQ id node) (s.runs.take k)=ge at *
    repeat'(first|(refine zhm fun hb=>?_;try exact zab)|refine zUrp ?_|refine zg2 ?_ ?_|intro _)
    refine⟨k+1,by omega,by omega,?_⟩
    refine⟨rfl,?_,?_,rfl⟩
    repeat'(first|exact ze3|refine ze2 ?_ ?_|refine ze4 ?_|exact ze5|fail)
    all_goals exact zp (by first|rfl|(rw[c];done)|(rw[d,<-Xao];exact Y5 _ ⟨_,_,_⟩))
   ·cases e:hasI (nth s.runs k).nodes node with
    | true=>
     rw[e]at f
     have b:=Qpz (id:=id) e
     have c:=VE a b
     have d:=VF (now:=s.now) (why:=why) a b
     generalize QR s.now why (YQ id node) (s.runs.take k)=ge at *
     repeat'(first|(refine zhm fun hb=>?_;try exact zab)|refine zUrp ?_|refine zg2 ?_ ?_|intro _)
     refine⟨k+1,by omega,by omega,?_⟩
     refine⟨rfl,?_,?_,rfl⟩
     repeat'(first|exact ze3|refine ze2 ?_ ?_|refine ze4 ?_|exact ze5|fail)
     all_goals exact zp (by first|rfl|(rw[c];done)|(rw[d,<-Xao];exact Y5 _ ⟨_,_,_⟩))
    | false=>
     rw[e]at f
     have b:=Qrm g e
     have c:=Qbn a b
     have d:=QaX (now:=s.now) (why:=why) a b
     repeat'(first|(refine zhm fun hb=>?_;try exact zab)|refine zUrp ?_|refine zg2 ?_ ?_|intro _)
     refine⟨k+1,by omega,by omega,?_⟩
     refine⟨rfl,?_,?_,rfl⟩
     repeat'(first|exact ze3|refine ze2 ?_ ?_|refine ze4 ?_|exact ze5|fail)
     all_goals exact zp (by first|rfl|(rw[d];done)|(rw[c];exact Z7 _ _))
  ·obtain rfl:k=s.runs.length:=by omega
   rw[Xal]at *
   repeat'(first|(refine zhm fun hb=>?_;try exact zab)|refine zUrp ?_|refine zg2 ?_ ?_|intro _)
   show AWp _ _ _ _
   apply Qs
   refine zn () [12,500000] (by exact trivial) ?_ ?_
   all_goals exact zae
theorem Qqv{s:Qb}{why id node:Int}(hs:Qo 100000000 s):NCalls Tryz.prog 317 [.agg (QcF s (.row 500000) (zL (runE s.runs)) 500001),zI why,zI id,zI node] [(500000,.row 4 (Qk s.up) true),(500001,.row 123 (endE s.ends) true)] (fun _:Unit=>True) (fun _=>[.agg (QcF s (.row 2) (.row 0) 1)]) (fun _=>[(0,.row 66 (runE (JU (YQ id node) s.runs)) false),(1,.row 123 (endE (s.ends++QR s.now why (YQ id node) s.runs)) true),(2,.row 4 (Qk s.up) true)]):=by
 refine Ve tt func317 rfl rfl rfl (fun _ _=>rfl) (fun w0 Z O=>?_)
 have hl:=Qe s.runs
 have h5:=hs.run
 have h6:=hs.end'
 repeat'(first|(refine zhm fun hb=>?_;try exact zab)|refine zUtp ?_|refine zg2 ?_ ?_|intro _)
 refine WW 12 rfl ?_
 refine Qa (fun(k:Nat)=>⟨51,[(1,zI why),(2,zI id),(3,zI node),(4,.ptr 4 0),(8,.ptr 8 0),(9,.row 12),(14,zL (runE s.runs)),(15,zI (s.runs.length:Nat)),(16,zI k)],[(4,.box 34 (QcF s (.row 500000) (zL (runE s.runs)) 500001)),(8,.box 34 [.nil,.nil,.nil,zI 0,zI 0,zI 0,zI 0,zI 0,.nil,.nil,.nil]),(500000,.row 4 (Qk s.up) true),(500001,.row 123 (endE (s.ends++QR s.now why (YQ id node) (s.runs.take k))) true),(12,.row 66 (runE (JU (YQ id node) (s.runs.take k))) false)]⟩) (fun k=>k<=s.runs.length) (fun k=>s.runs.length-k) 0 (by exact Xae _) ?_ ?_
 ·refine⟨rfl,?_,?_,rfl⟩
  repeat'(first|exact ze3|refine ze2 ?_ ?_|refine ze4 ?_|exact ze5|fail)
  all_goals exact zp (by first|rfl|(simp[QR];done))
 ·intro k hk
  have h:=Qe (JU (YQ id node) (s.runs.take k))
  have j:=QJ (s.ends++QR s.now why (YQ id node) (s.runs.take k))
  have o:(s.ends++QR s.now why (YQ id node) (s.runs.take k)).length=s.ends.length+(QR s.now why (YQ id node) (s.runs.take k)).length:=Xab
  have m:=Xl (p:=YQ id node) (l:=s.runs) (i:=k)
  have n:=Z8 (now:=s.now) (why:=why) (p:=YQ id node) (l:=s.runs) (i:=k)
  by_cases a:k<s.runs.length
  ·have q:=hs.rno k a
   have f:=WX (l:=(nth s.runs k).nodes) (x:=node) (by omega)
   by_cases g:(nth s.runs k).job.id=id
   ·have b:=Qrv (node:=node) g
    have c:=VE a b
    have d:=VF (now:=s.now) (why:=why) a b
    generalize QR s.now why (YQ id node) (s.runs.take k)=ge at *
    repeat'(first|(refine zhm fun hb=>?_;try exact zab)|refine zUrp ?_|refine zg2 ?_ ?_|intro _)
    refine⟨k+1,by omega,by omega,?_⟩
    refine⟨rfl,?_,?_,rfl⟩
    repeat'(first|exact ze3|refine ze2 ?_ ?_|refine ze4 ?_|exact ze5|fail)
    all_goals exact zp (by first|rfl|(rw[c];done)|(rw[d,<-Xao];exact Y5 _ ⟨_,_,_⟩))
   ·cases e:hasI (nth s.runs k).nodes node with
    | true=>
     rw[e]at f
     have b:=Qpz (id:=id) e
     have c:=VE a b
     have d:=VF (now:=s.now) (why:=why) a b
     generalize QR s.now why (YQ id node) (s.runs.take k)=ge at *
     repeat'(first|(refine zhm fun hb=>?_;try exact zab)|refine zUrp ?_|refine zg2 ?_ ?_|intro _)
     refine⟨k+1,by omega,by omega,?_⟩
     refine⟨rfl,?_,?_,rfl⟩
     repeat'(first|exact ze3|refine ze2 ?_ ?_|refine ze4 ?_|exact ze5|fail)
     all_goals exact zp (by first|rfl|(rw[c];done)|(rw[d,<-Xao];exact Y5 _ ⟨_,_,_⟩))
    | false=>
     rw[e]at f
     have b:=Qrm g e
     have c:=Qbn a b
     have d:=QaX (now:=s.now) (why:=why) a b
     repeat'(first|(refine zhm fun hb=>?_;try exact zab)|refine zUrp ?_|refine zg2 ?_ ?_|intro _)
     refine⟨k+1,by omega,by omega,?_⟩
     refine⟨rfl,?_,?_,rfl⟩
     repeat'(first|exact ze3|refine ze2 ?_ ?_|refine ze4 ?_|exact ze5|fail)
     all_goals exact zp (by first|rfl|(rw[d];done)|(rw[c];exact Z7 _ _))
  ·obtain rfl:k=s.runs.length:=by omega
   rw[Xal]at *
   repeat'(first|(refine zhm fun hb=>?_;try exact zab)|refine zUrp ?_|refine zg2 ?_ ?_|intro _)
   show AWp _ _ _ _
   apply Qs
   refine zn () [12,500001,500000] (by exact trivial) ?_ ?_
   all_goals exact zae
end
section
def keyL:List (Nat×AO)->List Nat
 | []=>[]
 | (n,_)::l=>n::keyL l
theorem QkT:∀(l:List (Nat×AO)),keyL l=l.map Prod.fst
 | []=>rfl
 | (n,_)::l=>by rw[keyL,QkT l];rfl
def kept2(ρ ks:List Nat)(n:Nat):Bool:=bif inN ρ n then ks.any (fun m=>bif fre0 m then false else Nat.beq (ρ.getD (m-1000000) 0) n)else true
def back2(f:Nat->Bool)(t:Nat)(ρ:List Nat)(ob:List (Nat×AO))(ks:List Nat):Bool:=YZ (ks.map (JJ t ρ))&&ks.all fun m=>bif fre0 m then YU f (JA t m) ob else true
theorem QtR(ρ:List Nat)(fin:List (Nat×AO)):QaE ρ fin=kept2 ρ (keyL fin):=by
 funext n
 unfold QaE kept2
 rw[QkT,List.any_map]
 rfl
theorem Qsa{f:Nat->Bool}{t:Nat}{ρ:List Nat}{ob fin:List (Nat×AO)}(h:back2 f t ρ ob (keyL fin)=true):Qnc f t ρ ob fin=true:=by
 unfold back2 at h
 unfold Qnc
 rw[QkT,XaR,List.all_map]at h
 exact h
theorem kn2{X:Cx}{σ:AS}{o:Oper}{K:AS->Prop}{t:Nat}{ι:Type}{f:FuncId}{ws:Array Operand}{ats:Array TypeId}{xs:List AV}{obs:List (Nat×AO)}{ok:ι->Prop}{rs:ι->List AV}{fin:ι->List (Nat×AO)}(ρ:List Nat)(hc:NCalls X.P f xs obs ok rs fin)
  (ho:o.op=.call { callee:=.value (.func f),args:=ws,argTypes:=ats }) (hx:σ.handNA ρ ws.toList=some xs)
  (hK:∀i,ok i->K ⟨σ.nt,(t,(one (rs i)).mapN (JJ t ρ))::cutS (kept2 ρ (keyL (fin i))) σ.sl,finO t ρ (fin i)++Ym (inN ρ) (kept2 ρ (keyL (fin i))) σ.ob⟩)
  (hd:o.dst=some t:=by exact rfl) (hob:σ.handedN ρ 0 ρ=some obs:=by exact rfl) (hn:YZ ρ=true:=by exact rfl) (hno:W4 obs=true:=by exact rfl)
  (hf:∀i,ok i->back2 X.fre t ρ σ.ob (keyL (fin i))=true:=by exact fun _ _=>rfl) (ht:Nat.blt t σ.nt=true:=by exact rfl):OpOk X o σ K:=
 Qln ρ hc ho hd hx hob hn hno (fun i hi=>Qsa (hf i hi)) ht (fun i hi=>by rw[QtR];exact hK i hi)
end
section
attribute [local irreducible] AWp QM OpOk ACalls ChA QsOk MCalls NCalls EnC PY

@[reducible] def stEw (s:Qb) (a b c q1 q2:Nat) (v:AV):List AV:=[.row a,.row b,.row c,zI s.lic.a,zI s.lic.b,zI s.lic.c,zI s.depth,zI s.now,.row q1,v,.row q2]
theorem QuY{s:Qb}{why:Int}{p:Run->Bool}{g:FuncId}{ds:List D}(hs:Qo 100000000 s)(hg:∀r,r∈s.runs->zAc g [runA r,.pd ds 0] [.d (.b (p r))] []):NCalls Tryz.prog 244 [.ptr 1000000 0,zI why,.clo g [.pd ds 0]] [(1000000,.box 34 (stEw s 500001 500002 500003 500004 500005 (zL (runE s.runs)))),(500001,.row 3 (intE s.topo.parents) true),(500002,.row 62 (Qr s.topo.nodes) true),(500003,.row 4 (Qk s.up) true),(500004,.row 40 (jobE s.queue) true),(500005,.row 123 (endE s.ends) true)] (fun _:Unit=>True) (fun _=>[.row 3]) (fun _=>[(1000000,.box 34 (stEw s 4 5 6 0 2 (.row 1))),(0,.row 40 (jobE s.queue) true),(1,.row 66 (runE (JU p s.runs)) false),(2,.row 123 (endE (s.ends++QR s.now why p s.runs)) true),(3,.row 40 (jobE (YR p s.runs)) true),(4,.row 3 (intE s.topo.parents) true),(5,.row 62 (Qr s.topo.nodes) true),(6,.row 4 (Qk s.up) true)]):=by
 refine Ve tt func244 rfl rfl rfl (fun _ _=>rfl) (fun w0 Z O=>?_)
 refine Yh 500005 62 rfl ?_
 have hl:=Qe s.runs
 have h5:=hs.run
 have h6:=hs.end'
 repeat'(first|(apply XH;iterate 10 exact rfl)|(refine zhm fun hb=>?_;try exact zab)|refine Qd ?_|(apply zch;exact zcg)|exact zhk|refine zg3 ?_ ?_|intro _)
 refine Zn 8 8 66 rfl rfl rfl ?_
 refine WW 8 rfl ?_
 refine Qa (fun(k:Nat)=>⟨58,[(0,.ptr 1000000 0),(1,zI why),(2,.clo g [.pd ds 0]),(7,.row 11),(8,.row 8),(15,zL (runE s.runs)),(16,zI (s.runs.length:Nat)),(17,zI k)],[(1000000,.box 34 (stEw s 500001 500002 500003 500004 62 (zL (runE s.runs)))),(500001,.row 3 (intE s.topo.parents) true),(500002,.row 62 (Qr s.topo.nodes) true),(500003,.row 4 (Qk s.up) true),(500004,.row 40 (jobE s.queue) true),(62,.row 123 (endE (s.ends++QR s.now why p (s.runs.take k))) true),(8,.row 66 (runE (JU p (s.runs.take k))) false),(11,.row 40 (jobE (YR p (s.runs.take k))) true)]⟩) (fun k=>k<=s.runs.length) (fun k=>s.runs.length-k) 0 (by exact Xae _) ?_ ?_
 ·refine zag ?_;exact zp (by(simp[QR];done))
 ·intro k hk
  have m:=Qj (YR p (s.runs.take k))
  have n:=Qe (JU p (s.runs.take k))
  have o:=QJ (s.ends++QR s.now why p (s.runs.take k))
  have v:(s.ends++QR s.now why p (s.runs.take k)).length=s.ends.length+(QR s.now why p (s.runs.take k)).length:=Xab
  have q:=QeC (p:=p) (l:=s.runs) (i:=k)
  have t:=Xl (p:=p) (l:=s.runs) (i:=k)
  have u:=Z8 (now:=s.now) (why:=why) (p:=p) (l:=s.runs) (i:=k)
  by_cases a:k<s.runs.length
  ·cases c:p (nth s.runs k) with
   | true=>
    have e:=hg (nth s.runs k) (QE a)
    rw[c]at e
    have f:=Qey a c
    have h:=VE a c
    have j:=VF (now:=s.now) (why:=why) a c
    generalize YR p (s.runs.take k)=gj at *
    generalize QR s.now why p (s.runs.take k)=ge at *
    repeat'(first|(apply XH;iterate 10 exact rfl)|(refine zhm fun hb=>?_;try exact zab)|refine Q2 ?_|(apply zch;exact zcg)|exact zhk|refine zg3 ?_ ?_|refine kv (e) rfl rfl rfl rfl rfl ?_|intro _)
    refine⟨k+1,by omega,by omega,?_⟩
    refine⟨rfl,?_,?_,rfl⟩
    repeat'(first|exact ze3|refine ze2 ?_ ?_|refine ze4 ?_|exact ze5|fail)
    all_goals exact zp (by first|rfl|(rw[h];done)|(rw[f];exact YF _ _)|(rw[j,<-Xao];exact Y5 _ ⟨_,_,_⟩))
   | false=>
    have e:=hg (nth s.runs k) (QE a)
    rw[c]at e
    have f:=Qg3 a c
    have h:=Qbn a c
    have j:=QaX (now:=s.now) (why:=why) a c
    repeat'(first|(apply XH;iterate 10 exact rfl)|(refine zhm fun hb=>?_;try exact zab)|refine Q2 ?_|(apply zch;exact zcg)|exact zhk|refine zg3 ?_ ?_|refine kv (e) rfl rfl rfl rfl rfl ?_|intro _)
    refine⟨k+1,by omega,by omega,?_⟩
    refine⟨rfl,?_,?_,rfl⟩
    repeat'(first|exact ze3|refine ze2 ?_ ?_|refine ze4 ?_|exact ze5|fail)
    all_goals exact zp (by first|rfl|(rw[f];done)|(rw[j];done)|(rw[h];exact Z7 _ _))
  ·obtain rfl:k=s.runs.length:=by omega
   rw[Xal]at *
   repeat'(first|(apply XH;iterate 10 exact rfl)|(refine zhm fun hb=>?_;try exact zab)|refine Q2 ?_|(apply zch;exact zcg)|exact zhk|refine zg3 ?_ ?_|intro _)
   show AWp _ _ _ _
   apply Qs
   refine zn () [500004,8,62,11,500001,500002,500003] (by exact trivial) ?_ ?_
   all_goals exact zae
end
section

mutual
def AV.rsb(p n:Nat):AV->AV
 | .row o=>if Nat.beq o p=true then .sub p 0 n else .row o
 | .agg xs=>.agg (rsbL p n xs)
 | .tup xs=>.tup (rsbL p n xs)
 | .nil=>.nil
 | .clo g xs=>.clo g xs
 | .sub o i j=>.sub o i j
 | .any=>.any
 | .d x=>.d x
 | .ptr o i=>.ptr o i
 | .pr o i j=>.pr o i j
 | .pd e i=>.pd e i
def rsbL(p n:Nat):List AV->List AV
 | []=>[]
 | x::xs=>x.rsb p n::rsbL p n xs
end
section
variable {w:World} {en:List Ent} {I:Nat->Prop} {p n:Nat}
def Qvh(en:List Ent)(p n:Nat):Prop:=∀x∈en,x.nm=p->n<=x.ao.lens.length/\∃A m c z,x.val=.slice A m c/\(∀l∈x.ao.lens,l=z)/\x.val=subV A c z 0 n
mutual
theorem AV.shows_rsb(hy:Qvh en p n):∀(x:AV) (u:Value),x.shows w en I u->(x.rsb p n).shows w en I u
 | .row o,u,h=>by
  unfold AV.rsb
  by_cases he:Nat.beq o p=true
  ·rw[if_pos he]
   obtain⟨y,h1,h2,h3,h4⟩:=h
   have e:=Nat.eq_of_beq_eq_true he
   subst e
   obtain⟨k1,A,m,c,z,k2,k3,k4⟩:=hy y h1 h2
   exact⟨y,h1,h2,h3,⟨Xae _,k1⟩,A,m,c,z,k2,k3,by rw[h4,k4]⟩
  ·rw[if_neg he]
   exact h
 | .agg xs,u,h=>by
  obtain⟨us,h1,h2⟩:=h
  exact⟨us,h1,Qcu hy xs us h2⟩
 | .tup xs,u,h=>by
  obtain⟨us,h1,h2⟩:=h
  exact⟨us,h1,Qcu hy xs us h2⟩
 | .nil,_,h=>h
 | .any,_,h=>h
 | .d _,_,h=>h
 | .ptr _ _,_,h=>h
 | .pr _ _ _,_,h=>h
 | .pd _ _,_,h=>h
 | .clo _ _,_,h=>h
 | .sub _ _ _,_,h=>h
theorem Qcu(hy:Qvh en p n):∀(xs:List AV) (us:List Value),Qn w en I xs us->Qn w en I (rsbL p n xs) us
 | [],_,h=>h
 | x::xs,us,h=>by
  obtain⟨u,us',h1,h2,h3⟩:=h
  exact⟨u,us',h1,AV.shows_rsb hy x u h2,Qcu hy xs us' h3⟩
end
end
theorem Qmt(A:Option Addr)(c z n:Nat):subV A c z 0 n=.slice A n c:=by
 unfold subV
 rw[Xbo,XbE,XbE]
 split
 ·rfl
 ·cases A with
  | none=>rfl
  | some a=>simp[Addr.add]
theorem QbT(t p:Nat){X:Cx}{c:Code}{Q:Exit->AS->Prop}{σ:AS}{e:TypeId}{es:List (List D)}{dp:Bool}(hp:Ql σ.ob p=some (.row e es dp))(h:AWp X c Q (σ.put t ((look σ.sl t).rsb p es.length))):AWp X c Q σ:=fun a w ⟨en,hr⟩=>by
 refine h a w ⟨en,⟨hr.mem,hr.ob,hr.defers,hr.size,fun s=>?_⟩⟩
 have o:Qvh en p es.length:=fun x hx hn=>by
  obtain⟨y,m,n,f⟩:=hr.ent hp
  obtain rfl:=hr.mem.ent_unique hx m (hn.trans n.symm)
  have b:=hr.mem.ok x hx
  unfold EntOk at b
  rw[f]at b
  obtain⟨z,us,k0,k1,q,r,k4,k5,k6,k7⟩:=b
  rw[f]
  refine⟨by simp[AO.lens],?_⟩
  have i:∀l∈(AO.row e es dp).lens,l=z:=fun l hl=>by
   obtain⟨k,d,rfl⟩:=Xaf.1 hl
   exact r k d
  rcases q.2 with ⟨hv,h0⟩|⟨g,cap,cur,hv,_⟩
  ·refine⟨none,0,0,z,hv,i,?_⟩
   have:es.length=0:=h0
   rw[Qmt,this,hv]
  ·refine⟨some ⟨g,0,none⟩,es.length,cap,z,hv,i,?_⟩
   rw[Qmt,hv]
 simp only[AS.put,QQ]
 split
 ·rename_i j
  subst j
  exact AV.shows_rsb o _ _ (hr.slots t)
 ·exact hr.slots s
end
end Go.Proofs.YtkdniahincpmaaaGreat
