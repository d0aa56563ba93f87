/-
  StateOk, the program's.
-/
import Derived.Test.YtkdniahincpmaaaGreatKB19
set_option maxRecDepth 100000
set_option maxHeartbeats 16000000
namespace Go.Proofs.YtkdniahincpmaaaGreat
open Go Go.RowKit Tryz
section
attribute [local irreducible] AWp QI OpOk ACalls ChA QsOk MCalls EnC PY

theorem Qj.mono{n m:Nat}{s:Qb}(h:Qj n s)(hm:n<=m):Qj m s:=⟨Xal h.par hm,Xal h.nod hm,Xal h.up hm,Xal h.que hm,Xal h.run hm,Xal h.end' hm,fun j hj=>Xal (h.rno j hj) hm⟩
theorem QlP{s:Qb}(h:Qj 100000000 s):(allJ s).length<=1000000000:=by
 have h1:=h.que
 have h2:=h.run
 simp only[allJ,Xaa,XaB]
 omega
theorem JW{s:Qb}(h:StateP s->False):Qe s=false:=pB_f.2 h
structure RunsP (s:Qb):Prop where
 topo:QW s.topo
 up:s.up.length=s.topo.nodes.length
 runs:∀j,j<s.runs.length->Qk (nth s.runs j).job=true/\Qc9 s.topo (nth s.runs j).job (nth s.runs j).nodes
theorem QhB{s:Qb}{r:Jm}(h:Jg s=some r):RunsP s:=by
 obtain⟨_,_,_,a,b⟩:=Yo h
 exact⟨a.topo,a.up,fun j hj=>⟨(Zc.1 (b _ (QC hj)).1).1,(b _ (QC hj)).2⟩⟩
theorem QhR{t:QT}{l:List Int}(h:QW t)(hl:Jp t l):lowI t l=((lowI t l).toNat:Int):=(Xa3 (QhN h hl).1).symm
theorem JX{s:Qb}(hs:Qj 100000000 s):zAc 47 [Qt s] [.d (.b (Qe s))] []:=by
 refine zAC func47 fun w0 Z=>?_
 have g:=hs.mono (m:=1000000000) (by omega)
 have ad:=QO s.ends
 have ae:=hs.end'
 have p:=QbA g
 cases w:Jg s with
 | none=>
  rw[w]at p
  rw[JW fun h=>by have:=h.room;rw[w]at this;cases this]
  repeat'(first|(refine zhm fun hb=>?_;try exact zab)|refine Qd ?_|(apply zch;exact zcg)|exact zhk|refine zg3 ?_ ?_|refine kmu p ?_|intro _)
  exact zrr
 | some r=>
  rw[w]at p
  have o:=QhB w
  have al:=o.up
  have x:=Qjv (QlP hs)
  cases v:YC (allJ s) with
  | false=>
   rw[v]at x
   rw[JW fun h=>by have:=pB_t.2 h.jobs;unfold YC at v;rw[v]at this;cases this]
   repeat'(first|(refine zhm fun hb=>?_;try exact zab)|refine Qd ?_|(apply zch;exact zcg)|exact zhk|refine zg3 ?_ ?_|refine zqd QV ?_|refine kmu p ?_|refine kmu (Qvl g) ?_|intro _)
   all_goals
    exact zrr
  | true=>
   rw[v]at x
   repeat'(first|(refine zhm fun hb=>?_;try exact zab)|refine Qd ?_|(apply zch;exact zcg)|exact zhk|refine zg3 ?_ ?_|refine zqd QV ?_|refine kmu p ?_|refine kmu (Qvl g) ?_|intro _)
   any_goals
    rw[JW fun h=>by have q:=h.depth;have h2:=h.ends;omega]
    refine zr [] ?_ ?_
    repeat'(first|exact ze3|refine ze2 ?_ ?_|refine ze4 ?_|exact ze5|fail)
    all_goals exact zp rfl
   refine Qa (fun(n:Nat)=>⟨102,[(1,.ptr 1 0),(37,zL (runE s.runs)),(38,zI (s.runs.length:Nat)),(39,zI n)],[(1,.box 34 (Q3 s))]⟩) (fun n=>n<=s.runs.length/\∀j,j<n->RunP s (nth s.runs j)) (fun n=>s.runs.length-n) 0 (by exact⟨Xad _,fun j c=>absurd c (Xar _)⟩) ?_ ?_
   ·exact zll
   ·rintro n ⟨hn,hp⟩
    have aj:=Qg s.runs
    by_cases a:n<s.runs.length
    ·obtain⟨c,t⟩:=o.runs n a
     have ai:=Qc (nth s.runs n).nodes
     have z:=t.num
     have ag:=(YB c).1
     have ac:=Qx s.up
     have ak:=hs.rno n a
     repeat'(first|(refine zhm fun hb=>?_;try exact zab)|refine Qd ?_|(apply zch;exact zcg)|exact zhk|refine zg3 ?_ ?_|intro _)
     refine Qa (fun(m:Nat)=>⟨102,[(1,.ptr 1 0),(6,.ptr 6 0),(37,zL (runE s.runs)),(38,zI (s.runs.length:Nat)),(39,zI n),(44,zL (intE (nth s.runs n).nodes)),(45,zI ((nth s.runs n).nodes.length:Nat)),(46,zI m)],[(1,.box 34 (Q3 s)),(6,.box 66 ((runD (nth s.runs n)).map AV.d))]⟩) (fun m=>m<=(nth s.runs n).nodes.length/\∀k,k<m->nth s.up (nth (nth s.runs n).nodes k).toNat=true) (fun m=>(nth s.runs n).nodes.length-m) 0 (by exact⟨Xad _,fun j c=>absurd c (Xar _)⟩) ?_ ?_
     ·exact zll
     ·rintro m ⟨hm,u⟩
      by_cases f:m<(nth s.runs n).nodes.length
      ·have af:=t.nodes m f
       repeat'(first|(refine zhm fun hb=>?_;try exact zab)|refine Qd ?_|(apply zch;exact zcg)|exact zhk|refine zg3 ?_ ?_|intro _)
       ·rw[JW fun h=>by have q:=(h.runs n a).up m f;simp_all]
        exact zrr
       ·refine⟨m+1,⟨by omega,fun k hk'=>?_⟩,by omega,?_⟩
        ·by_cases e:k=m
         ·subst e;assumption
         ·exact u k (by omega)
        exact zll
      ·have y:=QhN o.topo t.nodes
       have c4:=Qmt o.topo t.nodes (by omega) (by omega)
       rw[QhR o.topo t.nodes]at c4
       have c5:=QcE o.topo (s:=(lowI s.topo (nth s.runs n).nodes).toNat) (by omega)
       repeat'(first|(refine zhm fun hb=>?_;try exact zab)|refine Qd ?_|(apply zch;exact zcg)|exact zhk|refine zg3 ?_ ?_|refine kc (Qaz (l:=(nth s.runs n).nodes) (by omega)) rfl rfl ?_|refine kq (Qaz (l:=(nth s.runs n).nodes) (by omega)) rfl rfl ?_|intro _)
       ·rw[JW fun h=>by have q:=QrR.2 (h.runs n a).asc;simp_all]
        exact zrr
       ·rw[JW fun h=>by have q:=(h.runs n a).level;omega]
        exact zrr
       ·refine⟨n+1,⟨by omega,fun j hj'=>?_⟩,by omega,?_⟩
        ·by_cases e:j=n
         ·subst e
          exact⟨fun i hi=>u i (by omega),QrR.1 (by assumption),by omega⟩
         ·exact hp j (by omega)
        exact zll
    ·repeat'(first|(refine zhm fun hb=>?_;try exact zab)|refine Qd ?_|(apply zch;exact zcg)|exact zhk|refine zg3 ?_ ?_|intro _)
     refine Qa (fun(n:Nat)=>⟨102,[(1,.ptr 1 0),(77,zL (endE s.ends)),(78,zI (s.ends.length:Nat)),(79,zI n)],[(1,.box 34 (Q3 s))]⟩) (fun n=>n<=s.ends.length/\∀j,j<n->endB s.now (nth s.ends j)=true) (fun n=>s.ends.length-n) 0 (by exact⟨Xad _,fun j c=>absurd c (Xar _)⟩) ?_ ?_
     ·exact zll
     ·rintro m ⟨hm,u⟩
      by_cases f:m<s.ends.length
      ·repeat'(first|(refine zhm fun hb=>?_;try exact zab)|refine Qd ?_|(apply zch;exact zcg)|exact zhk|refine zg3 ?_ ?_|refine zqd QV ?_|intro _)
       any_goals
        rw[JW fun h=>by have q:=h.endsOk m f;simp only[endB,Xab,JA]at q;omega]
        refine zr [] ?_ ?_
        repeat'(first|exact ze3|refine ze2 ?_ ?_|refine ze4 ?_|exact ze5|fail)
        all_goals exact zp rfl
       refine⟨m+1,⟨by omega,fun j hj'=>?_⟩,by omega,?_⟩
       ·by_cases e:j=m
        ·subst e
         simp only[endB,Xab,JA]
         omega
        ·exact u j (by omega)
       exact zll
      ·rw[show Qe s=true from pB_t.2 ⟨by rw[w];rfl,by omega,pB_t.1 v,by omega,fun j c=>hp j (by omega),fun j c=>u j (by omega)⟩]
       repeat'(first|(refine zhm fun hb=>?_;try exact zab)|refine Qd ?_|(apply zch;exact zcg)|exact zhk|refine zg3 ?_ ?_|intro _)
       exact zrr

theorem Yl{s:Qb}(hs:Qj 100000000 s):zAc 124 [Qt s] [.d (.b (Qe s))] []:=by
 refine zAC func124 fun w0 Z=>?_
 have o:=hs.mono (m:=1000000000) (by omega)
 have af:=QO s.ends
 have ag:=hs.end'
 have q:=Qmj o
 cases w:Jg s with
 | none=>
  rw[w]at q
  rw[JW fun h=>by have:=h.room;rw[w]at this;cases this]
  repeat'(first|(refine zhm fun hb=>?_;try exact zab)|refine Qd ?_|(apply zch;exact zcg)|exact zhk|refine zg3 ?_ ?_|refine kmu q ?_|intro _)
  exact zrr
 | some r=>
  rw[w]at q
  have c:=QhB w
  have an:=c.up
  have x:=Qd3 (QlP hs)
  cases v:YC (allJ s) with
  | false=>
   rw[v]at x
   rw[JW fun h=>by have:=pB_t.2 h.jobs;unfold YC at v;rw[v]at this;cases this]
   repeat'(first|(refine zhm fun hb=>?_;try exact zab)|refine Qd ?_|(apply zch;exact zcg)|exact zhk|refine zg3 ?_ ?_|refine kmu q ?_|refine kmu (XZ o) ?_|intro _)
   all_goals
    exact zrr
  | true=>
   rw[v]at x
   repeat'(first|(refine zhm fun hb=>?_;try exact zab)|refine Qd ?_|(apply zch;exact zcg)|exact zhk|refine zg3 ?_ ?_|refine kmu q ?_|refine kmu (XZ o) ?_|intro _)
   any_goals
    rw[JW fun h=>by have p:=h.depth;have h2:=h.ends;omega]
    refine zr [] ?_ ?_
    repeat'(first|exact ze3|refine ze2 ?_ ?_|refine ze4 ?_|exact ze5|fail)
    all_goals exact zp rfl
   refine Qa (fun(n:Nat)=>⟨127,[(1,.ptr 1 0),(41,zL (runE s.runs)),(42,zI (s.runs.length:Nat)),(43,zI n)],[(1,.box 34 (Q3 s))]⟩) (fun n=>n<=s.runs.length/\∀j,j<n->RunP s (nth s.runs j)) (fun n=>s.runs.length-n) 0 (by exact⟨Xad _,fun j f=>absurd f (Xar _)⟩) ?_ ?_
   ·exact zll
   ·rintro n ⟨hn,hp⟩
    have al:=Qg s.runs
    by_cases a:n<s.runs.length
    ·obtain⟨f,u⟩:=c.runs n a
     have ak:=Qc (nth s.runs n).nodes
     have aa:=u.num
     have ai:=(YB f).1
     have ae:=Qx s.up
     have am:=hs.rno n a
     repeat'(first|(refine zhm fun hb=>?_;try exact zab)|refine Qd ?_|(apply zch;exact zcg)|exact zhk|refine zg3 ?_ ?_|intro _)
     refine Qa (fun(m:Nat)=>⟨127,[(1,.ptr 1 0),(6,.ptr 6 0),(41,zL (runE s.runs)),(42,zI (s.runs.length:Nat)),(43,zI n),(48,zL (intE (nth s.runs n).nodes)),(49,zI ((nth s.runs n).nodes.length:Nat)),(50,zI m)],[(1,.box 34 (Q3 s)),(6,.box 66 ((runD (nth s.runs n)).map AV.d))]⟩) (fun m=>m<=(nth s.runs n).nodes.length/\∀k,k<m->nth s.up (nth (nth s.runs n).nodes k).toNat=true/\(0<k->nth (nth s.runs n).nodes (k-1)<nth (nth s.runs n).nodes k)) (fun m=>(nth s.runs n).nodes.length-m) 0 (by exact⟨Xad _,fun j f=>absurd f (Xar _)⟩) ?_ ?_
     ·exact zll
     ·rintro m ⟨hm,l⟩
      by_cases g:m<(nth s.runs n).nodes.length
      ·have ah:=u.nodes m g
       repeat'(first|(refine zhm fun hb=>?_;try exact zab)|refine Qd ?_|(apply zch;exact zcg)|exact zhk|refine zg3 ?_ ?_|intro _)
       ·rw[JW fun h=>by have p:=(h.runs n a).up m g;simp_all]
        exact zrr
       ·rw[JW fun h=>by have p:=(h.runs n a).asc (m-1) (by omega);rw[show m-1+1=m by omega]at p;omega]
        exact zrr
       ·refine⟨m+1,⟨by omega,fun k hk'=>?_⟩,by omega,?_⟩
        ·by_cases e:k=m
         ·subst e;exact⟨by assumption,fun _=>by omega⟩
         ·exact l k (by omega)
        exact zll
       ·refine⟨m+1,⟨by omega,fun k hk'=>?_⟩,by omega,?_⟩
        ·by_cases e:k=m
         ·subst e;exact⟨by assumption,fun _=>by omega⟩
         ·exact l k (by omega)
        exact zll
      ·have z:=QhN c.topo u.nodes
       have y:=c.topo.len
       have c4:=Qtq c.topo u.nodes (by omega) (by omega)
       rw[QhR c.topo u.nodes]at c4
       have c5:=ZE (t:=s.topo) (by omega) c.topo.valid s.topo.parents.length (lowI s.topo (nth s.runs n).nodes).toNat (by omega) (by omega)
       rw[QlT c.topo.valid c.topo.even (by omega)]at c5
       repeat'(first|(refine zhm fun hb=>?_;try exact zab)|refine Qd ?_|(apply zch;exact zcg)|exact zhk|refine zg3 ?_ ?_|intro _)
       ·rw[JW fun h=>by have p:=(h.runs n a).level;omega]
        exact zrr
       ·refine⟨n+1,⟨by omega,fun j hj'=>?_⟩,by omega,?_⟩
        ·by_cases e:j=n
         ·subst e
          exact⟨fun i hi=>(l i (by omega)).1,fun i hi=>(l (i+1) (by omega)).2 (Xco _),by omega⟩
         ·exact hp j (by omega)
        exact zll
    ·repeat'(first|(refine zhm fun hb=>?_;try exact zab)|refine Qd ?_|(apply zch;exact zcg)|exact zhk|refine zg3 ?_ ?_|intro _)
     refine Qa (fun(n:Nat)=>⟨127,[(1,.ptr 1 0),(90,zL (endE s.ends)),(91,zI (s.ends.length:Nat)),(92,zI n)],[(1,.box 34 (Q3 s))]⟩) (fun n=>n<=s.ends.length/\∀j,j<n->endB s.now (nth s.ends j)=true) (fun n=>s.ends.length-n) 0 (by exact⟨Xad _,fun j f=>absurd f (Xar _)⟩) ?_ ?_
     ·exact zll
     ·rintro m ⟨hm,l⟩
      by_cases g:m<s.ends.length
      ·repeat'(first|(refine zhm fun hb=>?_;try exact zab)|refine Qd ?_|(apply zch;exact zcg)|exact zhk|refine zg3 ?_ ?_|intro _)
       any_goals
        rw[JW fun h=>by have p:=h.endsOk m g;simp only[endB,Xab,JA]at p;omega]
        refine zr [] ?_ ?_
        repeat'(first|exact ze3|refine ze2 ?_ ?_|refine ze4 ?_|exact ze5|fail)
        all_goals exact zp rfl
       refine⟨m+1,⟨by omega,fun j hj'=>?_⟩,by omega,?_⟩
       ·by_cases e:j=m
        ·subst e
         simp only[endB,Xab,JA]
         omega
        ·exact l j (by omega)
       exact zll
      ·rw[show Qe s=true from pB_t.2 ⟨by rw[w];rfl,by omega,pB_t.1 v,by omega,fun j f=>hp j (by omega),fun j f=>l j (by omega)⟩]
       repeat'(first|(refine zhm fun hb=>?_;try exact zab)|refine Qd ?_|(apply zch;exact zcg)|exact zhk|refine zg3 ?_ ?_|intro _)
       exact zrr

def useS(n:Int)(v:V3)(x:Run):V3:=if hasI x.nodes n=true then(addO v x.job.need).getD zV else v
def useV(n:Int)(l:List Run):V3:=l.foldl (useS n) zV
noncomputable def useO (s:Qb) (n:Int):V3:=if Qe s=true/\0<=n/\n<s.topo.nodes.length then useV n s.runs else zV
theorem Qxd{v u:V3}:Qf ((addO v u).getD zV)=true:=by
 unfold addO valO
 split
 ·rename_i h
  simp only[Xab]at h
  exact h.2.2
 ·rfl
theorem QwQ{n:Int}{v:V3}{x:Run}(h:Qf v=true):Qf (useS n v x)=true:=by
 unfold useS
 split
 ·exact Qxd
 ·exact h
theorem QvR{n:Int}:∀(i:Nat) (l:List Run),Qf (useV n (l.take i))=true:=by
 intro i l
 unfold useV
 have a:∀(l:List Run) (v:V3),Qf v=true->Qf (l.foldl (useS n) v)=true:=by
  intro l
  induction l with
  | nil=>exact fun v h=>h
  | cons x l ih=>exact fun v h=>ih _ (QwQ h)
 exact a _ _ rfl
theorem QrY{n:Int}{l:List Run}{i:Nat}(h:i<l.length):useV n (l.take (i+1))=useS n (useV n (l.take i)) (nth l i):=by
 rw[Qo h,useV,XaJ]
 rfl
theorem QvT{j:Job}(h:Qk j=true):Qf j.need=true:=by
 simp only[Qk,Xab]at h
 exact h.1.1.1.2
theorem Xu{s:Qb}(h:Qe s=true):RunsP s:=by
 have a:=(pB_t.1 h).room
 cases b:Jg s with
 | none=>rw[b]at a;cases a
 | some r=>exact QhB b
theorem Qrg{l:List Int}{x:Int}{k:Nat}(hk:k<l.length):hasI (l.take (k+1)) x=(hasI (l.take k) x||(nth l k==x)):=by
 rw[Qo hk]
 simp[hasI]
theorem QiX{s:Qb}{n:Int}:zAc 318 [Qt s,zI n] [.d (.b (decide (0<=n)&&decide (n<s.topo.nodes.length)))] []:=by
 refine zAC func318 fun w0 Z=>?_
 have a:=Qz s.topo.nodes
 repeat'(first|(refine zhm fun hb=>?_;try exact zab)|refine zUtp ?_|refine zg2 ?_ ?_|intro _)
 all_goals
  refine zr [] ?_ ?_
  repeat'(first|exact ze3|refine ze2 ?_ ?_|refine ze4 ?_|exact ze5|fail)
  exact zp (by rw[Xam];simp;omega)
theorem Qzo{s:Qb}{n:Int}(hs:Qj 100000000 s):zAc 20 [Qt s,zI n] [vecA (useO s n)] []:=by
 refine zAC func20 fun w0 Z=>?_
 have w:=Qz s.topo.nodes
 have y:=hs.nod
 have l:=JX hs
 cases c:Qe s with
 | false=>
  rw[c]at l
  rw[show useO s n=zV from if_neg (fun h=>by rw[c]at h;cases h.1)]
  repeat'(first|(refine zhm fun hb=>?_;try exact zab)|refine zUtp ?_|refine zg2 ?_ ?_|intro _)
  exact zrr
 | true=>
  rw[c]at l
  have q:=Xu c
  by_cases p:0<=n/\n<s.topo.nodes.length
  ·rw[show useO s n=useV n s.runs from if_pos ⟨c,p⟩]
   repeat'(first|(refine zhm fun hb=>?_;try exact zab)|refine zUtp ?_|refine zg2 ?_ ?_|refine zqj QV ?_|intro _)
   refine Qa (fun(i:Nat)=>⟨53,[(1,zI n),(4,.ptr 4 0),(5,.ptr 5 0),(26,zL (runE s.runs)),(27,zI (s.runs.length:Nat)),(28,zI i)],[(4,.box 29 (vecC zV)),(5,.box 29 (vecC (useV n (s.runs.take i))))]⟩) (fun i=>i<=s.runs.length) (fun i=>s.runs.length-i) 0 (by exact Xad _) ?_ ?_
   ·exact zll
   ·intro i hi
    have z:=Qg s.runs
    by_cases b:i<s.runs.length
    ·obtain⟨u,r⟩:=q.runs i b
     have aa:=hs.rno i b
     have t:=Qc (nth s.runs i).nodes
     have c4:=QlE (QvR (n:=n) i s.runs) (QvT u)
     have k:=QrY (n:=n) b
     repeat'(first|(refine zhm fun hb=>?_;try exact zab)|refine zUtp ?_|refine zg2 ?_ ?_|intro _)
     refine Qa (fun(m:Nat)=>⟨53,[(1,zI n),(4,.ptr 4 0),(5,.ptr 5 0),(7,.ptr 7 0),(26,zL (runE s.runs)),(27,zI (s.runs.length:Nat)),(28,zI i),(33,zL (intE (nth s.runs i).nodes)),(34,zI ((nth s.runs i).nodes.length:Nat)),(35,zI m)],[(4,.box 29 (vecC zV)),(5,.box 29 (vecC (bif hasI ((nth s.runs i).nodes.take m) n then(addO (useV n (s.runs.take i)) (nth s.runs i).job.need).getD zV else useV n (s.runs.take i)))),(7,.box 66 ((runD (nth s.runs i)).map AV.d))]⟩) (fun m=>m<=(nth s.runs i).nodes.length) (fun m=>(nth s.runs i).nodes.length-m) 0 (by exact Xad _) ?_ ?_
     ·exact zll
     ·intro m hm
      by_cases g:m<(nth s.runs i).nodes.length
      ·have f:=r.diff m g
       have a:=Qrg (x:=n) g
       cases j:hasI ((nth s.runs i).nodes.take m) n with
       | true=>
        rw[j,XcQ]at a
        have v:nth (nth s.runs i).nodes m≠n:=fun e=>by rw[e,j]at f;cases f
        repeat'(first|(refine zhm fun hb=>?_;try exact zab)|refine zUtp ?_|refine zg2 ?_ ?_|intro _)
        refine⟨m+1,by omega,by omega,?_⟩
        refine⟨rfl,?_,?_,rfl⟩
        repeat'(first|exact ze3|refine ze2 ?_ ?_|refine ze4 ?_|exact ze5|fail)
        all_goals exact zp (by first|rfl|(rw[a];done)|(rw[a];rfl))
       | false=>
        rw[j,XcF]at a
        by_cases o:nth (nth s.runs i).nodes m=n
        ·rw[beq_iff_eq.2 o]at a
         repeat'(first|(refine zhm fun hb=>?_;try exact zab)|refine zUtp ?_|refine zg2 ?_ ?_|intro _)
         refine⟨m+1,by omega,by omega,?_⟩
         refine⟨rfl,?_,?_,rfl⟩
         repeat'(first|exact ze3|refine ze2 ?_ ?_|refine ze4 ?_|exact ze5|fail)
         all_goals exact zp (by first|rfl|(rw[a];done)|(rw[a];rfl))
        ·rw[beq_eq_false_iff_ne.2 o]at a
         repeat'(first|(refine zhm fun hb=>?_;try exact zab)|refine zUtp ?_|refine zg2 ?_ ?_|intro _)
         refine⟨m+1,by omega,by omega,?_⟩
         refine⟨rfl,?_,?_,rfl⟩
         repeat'(first|exact ze3|refine ze2 ?_ ?_|refine ze4 ?_|exact ze5|fail)
         all_goals exact zp (by first|rfl|(rw[a];done)|(rw[a];rfl))
      ·repeat'(first|(refine zhm fun hb=>?_;try exact zab)|refine zUtp ?_|refine zg2 ?_ ?_|intro _)
       refine⟨i+1,by omega,by omega,?_⟩
       refine⟨rfl,?_,?_,rfl⟩
       repeat'(first|exact ze3|refine ze2 ?_ ?_|refine ze4 ?_|exact ze5|fail)
       all_goals exact zp (by first|rfl|(rw[k,Xas (by omega)];unfold useS;cases hasI (nth s.runs i).nodes n <;> rfl))
    ·rw[show useV n s.runs=useV n (s.runs.take i) by rw[Xas (by omega)]]
     repeat'(first|(refine zhm fun hb=>?_;try exact zab)|refine zUtp ?_|refine zg2 ?_ ?_|intro _)
     exact zrr
  ·rw[show useO s n=zV from if_neg (fun h=>p h.2)]
   repeat'(first|(refine zhm fun hb=>?_;try exact zab)|refine zUtp ?_|refine zg2 ?_ ?_|refine zqj QV ?_|intro _)
   all_goals
    exact zrr
end
end Go.Proofs.YtkdniahincpmaaaGreat
