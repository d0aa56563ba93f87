/-
  StateOk, the program's.
-/
import Derived.Test.YtihgfennoalocaaGreatKB7
import Derived.Test.YtihgfennoalocaaGreatKB19
set_option maxRecDepth 100000
set_option maxHeartbeats 16000000
namespace Go.Proofs.YtihgfennoalocaaGreat
open Go Go.RowKit Tryz
section
attribute [local irreducible] AWp QJ OpOk ACalls ChA QsOk MCalls EnC PY

theorem Ql.mono{n m:Nat}{s:Qd}(h:Ql n s)(hm:n<=m):Ql m s:=⟨Xao h.par hm,Xao h.nod hm,Xao h.up hm,Xao h.que hm,Xao h.run hm,Xao h.end' hm,fun j hj=>Xao (h.rno j hj) hm⟩
theorem QjH{s:Qd}(h:Ql 100000000 s):(allJ s).length<=1000000000:=by
 have h1:=h.que
 have h2:=h.run
 simp only[allJ,Xac,Xah]
 omega
theorem JL{s:Qd}(h:StateP s->False):Qp s=false:=pB_f.2 h
structure RunsP (s:Qd):Prop where
 topo:QY s.topo
 up:s.up.length=s.topo.nodes.length
 runs:∀j,j<s.runs.length->Qu (nth s.runs j).job=true/\Qmi s.topo (nth s.runs j).job (nth s.runs j).nodes
theorem QfM{s:Qd}{r:Jy}(h:JG s=some r):RunsP s:=by
 obtain⟨_,_,_,h4,h5⟩:=W1 h
 exact⟨h4.topo,h4.up,fun j hj=>⟨(Vn.1 (h5 _ (QO hj)).1).1,(h5 _ (QO hj)).2⟩⟩
theorem QkV{t:QW}{l:List Int}(h:QY t)(hl:Jz t l):lowI t l=((lowI t l).toNat:Int):=(Xax (QiW h hl).1).symm
theorem Yo{s:Qd}(hs:Ql 100000000 s):zAc 126 [Qx s] [.d (.b (Qp s))] []:=by
 refine zAC func126 fun w0 Z=>?_
 have hs9:=hs.mono (m:=1000000000) (by omega)
 have hel:=QC s.ends
 have hes:=hs.end'
 have c1:=Qcv hs9
 cases hr:JG s with
 | none=>
  rw[hr]at c1
  rw[JL fun h=>by have:=h.room;rw[hr]at this;cases this]
  repeat'(first|(refine zhm fun hb=>?_;try exact zab)|refine Qe ?_|(apply zch;exact zcg)|exact zhk|refine zg3 ?_ ?_|refine kmu c1 ?_|intro _|fail)
  exact zrr
 | some r=>
  rw[hr]at c1
  have hR:=QfM hr
  have hup:=hR.up
  have c2:=Qg6 (QjH hs)
  cases hq:Yk (allJ s) with
  | false=>
   rw[hq]at c2
   rw[JL fun h=>by have:=pB_t.2 h.jobs;unfold Yk at hq;rw[hq]at this;cases this]
   repeat'(first|(refine zhm fun hb=>?_;try exact zab)|refine Qe ?_|(apply zch;exact zcg)|exact zhk|refine zg3 ?_ ?_|refine zqd QX ?_|refine kmu c1 ?_|refine kmu (Qtp hs9) ?_|intro _|fail)
   all_goals
    exact zrr
  | true=>
   rw[hq]at c2
   repeat'(first|(refine zhm fun hb=>?_;try exact zab)|refine Qe ?_|(apply zch;exact zcg)|exact zhk|refine zg3 ?_ ?_|refine zqd QX ?_|refine kmu c1 ?_|refine kmu (Qtp hs9) ?_|intro _|fail)
   any_goals
    rw[JL fun h=>by have h1:=h.depth;have h2:=h.ends;omega]
    refine zr [] ?_ ?_
    repeat'(first|exact ze3|refine ze2 ?_ ?_|refine ze4 ?_|exact ze5|fail)
    all_goals exact zp rfl
   refine Qa (fun(n:Nat)=>⟨102,[(1,.ptr 1 0),(37,zL (runE s.runs)),(38,zI (s.runs.length:Nat)),(39,zI n)],[(1,.box 49 (JB s))]⟩) (fun n=>n<=s.runs.length/\∀j,j<n->RunP s (nth s.runs j)) (fun n=>s.runs.length-n) 0 (by exact⟨Xab _,fun j hj=>absurd hj (Xas _)⟩) ?_ ?_
   ·exact zll
   ·rintro n ⟨hn,hp⟩
    have hrl:=Qf s.runs
    by_cases hn':n<s.runs.length
    ·obtain⟨hj,hd⟩:=hR.runs n hn'
     have hnl:=Qb (nth s.runs n).nodes
     have hnum:=hd.num
     have hjn:=(YA hj).1
     have hbl:=Qo s.up
     have hrn:=hs.rno n hn'
     repeat'(first|(refine zhm fun hb=>?_;try exact zab)|refine Qe ?_|(apply zch;exact zcg)|exact zhk|refine zg3 ?_ ?_|intro _|fail)
     refine Qa (fun(m:Nat)=>⟨102,[(1,.ptr 1 0),(6,.ptr 6 0),(37,zL (runE s.runs)),(38,zI (s.runs.length:Nat)),(39,zI n),(44,zL (intE (nth s.runs n).nodes)),(45,zI ((nth s.runs n).nodes.length:Nat)),(46,zI m)],[(1,.box 49 (JB s)),(6,.box 170 ((runD (nth s.runs n)).map AV.d))]⟩) (fun m=>m<=(nth s.runs n).nodes.length/\∀k,k<m->nth s.up (nth (nth s.runs n).nodes k).toNat=true) (fun m=>(nth s.runs n).nodes.length-m) 0 (by exact⟨Xab _,fun j hj=>absurd hj (Xas _)⟩) ?_ ?_
     ·exact zll
     ·rintro m ⟨hm,hk⟩
      by_cases hm':m<(nth s.runs n).nodes.length
      ·have hin:=hd.nodes m hm'
       repeat'(first|(refine zhm fun hb=>?_;try exact zab)|refine Qe ?_|(apply zch;exact zcg)|exact zhk|refine zg3 ?_ ?_|intro _|fail)
       ·rw[JL fun h=>by have h1:=(h.runs n hn').up m hm';simp_all]
        exact zrr
       ·refine⟨m+1,⟨by omega,fun k hk'=>?_⟩,by omega,?_⟩
        ·by_cases e:k=m
         ·subst e;assumption
         ·exact hk k (by omega)
        exact zll
      ·have hlow:=QiW hR.topo hd.nodes
       have c4:=Qqo hR.topo hd.nodes (by omega) (by omega)
       rw[QkV hR.topo hd.nodes]at c4
       have c5:=Qfv hR.topo (s:=(lowI s.topo (nth s.runs n).nodes).toNat) (by omega)
       repeat'(first|(refine zhm fun hb=>?_;try exact zab)|refine Qe ?_|(apply zch;exact zcg)|exact zhk|refine zg3 ?_ ?_|refine kc (XH (l:=(nth s.runs n).nodes) (by omega)) rfl rfl ?_|refine kq (XH (l:=(nth s.runs n).nodes) (by omega)) rfl rfl ?_|intro _|fail)
       ·rw[JL fun h=>by have h1:=Qo6.2 (h.runs n hn').asc;simp_all]
        exact zrr
       ·rw[JL fun h=>by have h1:=(h.runs n hn').level;omega]
        exact zrr
       ·refine⟨n+1,⟨by omega,fun j hj'=>?_⟩,by omega,?_⟩
        ·by_cases e:j=n
         ·subst e
          exact⟨fun i hi=>hk i (by omega),Qo6.1 (by assumption),by omega⟩
         ·exact hp j (by omega)
        exact zll
    ·repeat'(first|(refine zhm fun hb=>?_;try exact zab)|refine Qe ?_|(apply zch;exact zcg)|exact zhk|refine zg3 ?_ ?_|intro _|fail)
     refine Qa (fun(n:Nat)=>⟨102,[(1,.ptr 1 0),(77,zL (endE s.ends)),(78,zI (s.ends.length:Nat)),(79,zI n)],[(1,.box 49 (JB s))]⟩) (fun n=>n<=s.ends.length/\∀j,j<n->endB s.now (nth s.ends j)=true) (fun n=>s.ends.length-n) 0 (by exact⟨Xab _,fun j hj=>absurd hj (Xas _)⟩) ?_ ?_
     ·exact zll
     ·rintro m ⟨hm,hk⟩
      by_cases hm':m<s.ends.length
      ·repeat'(first|(refine zhm fun hb=>?_;try exact zab)|refine Qe ?_|(apply zch;exact zcg)|exact zhk|refine zg3 ?_ ?_|refine zqd QX ?_|intro _|fail)
       any_goals
        rw[JL fun h=>by have h1:=h.endsOk m hm';simp only[endB,Xaf,Yr]at h1;omega]
        refine zr [] ?_ ?_
        repeat'(first|exact ze3|refine ze2 ?_ ?_|refine ze4 ?_|exact ze5|fail)
        all_goals exact zp rfl
       refine⟨m+1,⟨by omega,fun j hj'=>?_⟩,by omega,?_⟩
       ·by_cases e:j=m
        ·subst e
         simp only[endB,Xaf,Yr]
         omega
        ·exact hk j (by omega)
       exact zll
      ·rw[show Qp s=true from pB_t.2 ⟨by rw[hr];rfl,by omega,pB_t.1 hq,by omega,fun j hj=>hp j (by omega),fun j hj=>hk j (by omega)⟩]
       repeat'(first|(refine zhm fun hb=>?_;try exact zab)|refine Qe ?_|(apply zch;exact zcg)|exact zhk|refine zg3 ?_ ?_|intro _|fail)
       exact zrr

theorem YL{s:Qd}(hs:Ql 100000000 s):zAc 120 [Qx s] [.d (.b (Qp s))] []:=by
 refine zAC func120 fun w0 Z=>?_
 have hs9:=hs.mono (m:=1000000000) (by omega)
 have hel:=QC s.ends
 have hes:=hs.end'
 have c1:=Qqc hs9
 cases hr:JG s with
 | none=>
  rw[hr]at c1
  rw[JL fun h=>by have:=h.room;rw[hr]at this;cases this]
  repeat'(first|(refine zhm fun hb=>?_;try exact zab)|refine Qe ?_|(apply zch;exact zcg)|exact zhk|refine zg3 ?_ ?_|refine kmu c1 ?_|intro _|fail)
  exact zrr
 | some r=>
  rw[hr]at c1
  have hR:=QfM hr
  have hup:=hR.up
  have c2:=Qds (QjH hs)
  cases hq:Yk (allJ s) with
  | false=>
   rw[hq]at c2
   rw[JL fun h=>by have:=pB_t.2 h.jobs;unfold Yk at hq;rw[hq]at this;cases this]
   repeat'(first|(refine zhm fun hb=>?_;try exact zab)|refine Qe ?_|(apply zch;exact zcg)|exact zhk|refine zg3 ?_ ?_|refine kmu c1 ?_|refine kmu (Qat hs9) ?_|intro _|fail)
   all_goals
    exact zrr
  | true=>
   rw[hq]at c2
   repeat'(first|(refine zhm fun hb=>?_;try exact zab)|refine Qe ?_|(apply zch;exact zcg)|exact zhk|refine zg3 ?_ ?_|refine kmu c1 ?_|refine kmu (Qat hs9) ?_|intro _|fail)
   any_goals
    rw[JL fun h=>by have h1:=h.depth;have h2:=h.ends;omega]
    refine zr [] ?_ ?_
    repeat'(first|exact ze3|refine ze2 ?_ ?_|refine ze4 ?_|exact ze5|fail)
    all_goals exact zp rfl
   refine Qa (fun(n:Nat)=>⟨127,[(1,.ptr 1 0),(41,zL (runE s.runs)),(42,zI (s.runs.length:Nat)),(43,zI n)],[(1,.box 49 (JB s))]⟩) (fun n=>n<=s.runs.length/\∀j,j<n->RunP s (nth s.runs j)) (fun n=>s.runs.length-n) 0 (by exact⟨Xab _,fun j hj=>absurd hj (Xas _)⟩) ?_ ?_
   ·exact zll
   ·rintro n ⟨hn,hp⟩
    have hrl:=Qf s.runs
    by_cases hn':n<s.runs.length
    ·obtain⟨hj,hd⟩:=hR.runs n hn'
     have hnl:=Qb (nth s.runs n).nodes
     have hnum:=hd.num
     have hjn:=(YA hj).1
     have hbl:=Qo s.up
     have hrn:=hs.rno n hn'
     repeat'(first|(refine zhm fun hb=>?_;try exact zab)|refine Qe ?_|(apply zch;exact zcg)|exact zhk|refine zg3 ?_ ?_|intro _|fail)
     refine Qa (fun(m:Nat)=>⟨127,[(1,.ptr 1 0),(6,.ptr 6 0),(41,zL (runE s.runs)),(42,zI (s.runs.length:Nat)),(43,zI n),(48,zL (intE (nth s.runs n).nodes)),(49,zI ((nth s.runs n).nodes.length:Nat)),(50,zI m)],[(1,.box 49 (JB s)),(6,.box 170 ((runD (nth s.runs n)).map AV.d))]⟩) (fun m=>m<=(nth s.runs n).nodes.length/\∀k,k<m->nth s.up (nth (nth s.runs n).nodes k).toNat=true/\(0<k->nth (nth s.runs n).nodes (k-1)<nth (nth s.runs n).nodes k)) (fun m=>(nth s.runs n).nodes.length-m) 0 (by exact⟨Xab _,fun j hj=>absurd hj (Xas _)⟩) ?_ ?_
     ·exact zll
     ·rintro m ⟨hm,hk⟩
      by_cases hm':m<(nth s.runs n).nodes.length
      ·have hin:=hd.nodes m hm'
       repeat'(first|(refine zhm fun hb=>?_;try exact zab)|refine Qe ?_|(apply zch;exact zcg)|exact zhk|refine zg3 ?_ ?_|intro _|fail)
       ·rw[JL fun h=>by have h1:=(h.runs n hn').up m hm';simp_all]
        exact zrr
       ·rw[JL fun h=>by have h1:=(h.runs n hn').asc (m-1) (by omega);rw[show m-1+1=m by omega]at h1;omega]
        exact zrr
       ·refine⟨m+1,⟨by omega,fun k hk'=>?_⟩,by omega,?_⟩
        ·by_cases e:k=m
         ·subst e;exact⟨by assumption,fun _=>by omega⟩
         ·exact hk k (by omega)
        exact zll
       ·refine⟨m+1,⟨by omega,fun k hk'=>?_⟩,by omega,?_⟩
        ·by_cases e:k=m
         ·subst e;exact⟨by assumption,fun _=>by omega⟩
         ·exact hk k (by omega)
        exact zll
      ·have hlow:=QiW hR.topo hd.nodes
       have hlen:=hR.topo.len
       have c4:=Qqv hR.topo hd.nodes (by omega) (by omega)
       rw[QkV hR.topo hd.nodes]at c4
       have c5:=VN (t:=s.topo) (by omega) hR.topo.valid s.topo.parents.length (lowI s.topo (nth s.runs n).nodes).toNat (by omega) (by omega)
       rw[QkN hR.topo.valid hR.topo.even (by omega)]at c5
       repeat'(first|(refine zhm fun hb=>?_;try exact zab)|refine Qe ?_|(apply zch;exact zcg)|exact zhk|refine zg3 ?_ ?_|intro _|fail)
       ·rw[JL fun h=>by have h1:=(h.runs n hn').level;omega]
        exact zrr
       ·refine⟨n+1,⟨by omega,fun j hj'=>?_⟩,by omega,?_⟩
        ·by_cases e:j=n
         ·subst e
          exact⟨fun i hi=>(hk i (by omega)).1,fun i hi=>(hk (i+1) (by omega)).2 (Xcm _),by omega⟩
         ·exact hp j (by omega)
        exact zll
    ·repeat'(first|(refine zhm fun hb=>?_;try exact zab)|refine Qe ?_|(apply zch;exact zcg)|exact zhk|refine zg3 ?_ ?_|intro _|fail)
     refine Qa (fun(n:Nat)=>⟨127,[(1,.ptr 1 0),(90,zL (endE s.ends)),(91,zI (s.ends.length:Nat)),(92,zI n)],[(1,.box 49 (JB s))]⟩) (fun n=>n<=s.ends.length/\∀j,j<n->endB s.now (nth s.ends j)=true) (fun n=>s.ends.length-n) 0 (by exact⟨Xab _,fun j hj=>absurd hj (Xas _)⟩) ?_ ?_
     ·exact zll
     ·rintro m ⟨hm,hk⟩
      by_cases hm':m<s.ends.length
      ·repeat'(first|(refine zhm fun hb=>?_;try exact zab)|refine Qe ?_|(apply zch;exact zcg)|exact zhk|refine zg3 ?_ ?_|intro _|fail)
       any_goals
        rw[JL fun h=>by have h1:=h.endsOk m hm';simp only[endB,Xaf,Yr]at h1;omega]
        refine zr [] ?_ ?_
        repeat'(first|exact ze3|refine ze2 ?_ ?_|refine ze4 ?_|exact ze5|fail)
        all_goals exact zp rfl
       refine⟨m+1,⟨by omega,fun j hj'=>?_⟩,by omega,?_⟩
       ·by_cases e:j=m
        ·subst e
         simp only[endB,Xaf,Yr]
         omega
        ·exact hk j (by omega)
       exact zll
      ·rw[show Qp s=true from pB_t.2 ⟨by rw[hr];rfl,by omega,pB_t.1 hq,by omega,fun j hj=>hp j (by omega),fun j hj=>hk j (by omega)⟩]
       repeat'(first|(refine zhm fun hb=>?_;try exact zab)|refine Qe ?_|(apply zch;exact zcg)|exact zhk|refine zg3 ?_ ?_|intro _|fail)
       exact zrr

def useS(n:Int)(v:V3)(x:Run):V3:=if hasI x.nodes n=true then(addO v x.job.need).getD zV else v
def useV(n:Int)(l:List Run):V3:=l.foldl (useS n) zV
noncomputable def useO (s:Qd) (n:Int):V3:=if Qp s=true/\0<=n/\n<s.topo.nodes.length then useV n s.runs else zV
theorem QbS{s:Qd}(h:Qp s=true):RunsP s:=by
 have h1:=(pB_t.1 h).room
 cases hr:JG s with
 | none=>rw[hr]at h1;cases h1
 | some r=>exact QfM hr
theorem Qg9{s:Qd}{n:Int}:zAc 237 [Qx s,zI n] [.d (.b (decide (0<=n)&&decide (n<s.topo.nodes.length)))] []:=by
 refine zAC func237 fun w0 Z=>?_
 have hnl:=Qr s.topo.nodes
 repeat'(first|(refine zhm fun hb=>?_;try exact zab)|refine zUtp ?_|refine zg2 ?_ ?_|intro _|fail)
 all_goals
  refine zr [] ?_ ?_
  repeat'(first|exact ze3|refine ze2 ?_ ?_|refine ze4 ?_|exact ze5|fail)
  exact zp (by rw[Xan];simp;omega)
end
end Go.Proofs.YtihgfennoalocaaGreat
