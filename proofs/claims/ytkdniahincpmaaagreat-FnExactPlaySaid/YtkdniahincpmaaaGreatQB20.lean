/-
  StateOk, the program's.
-/
import Derived.Test.YtkdniahincpmaaaGreatQB18
set_option maxRecDepth 100000
set_option maxHeartbeats 16000000
namespace Go.Proofs.YtkdniahincpmaaaGreat
open Go Go.RowKit Tryz
section
attribute [local irreducible] AWp QM OpOk ACalls ChA QsOk MCalls EnC PY

theorem Qo.mono{n m:Nat}{s:Qb}(h:Qo n s)(hm:n<=m):Qo m s:=⟨Xam h.par hm,Xam h.nod hm,Xam h.up hm,Xam h.que hm,Xam h.run hm,Xam h.end' hm,fun j hj=>Xam (h.rno j hj) hm⟩
theorem Qmf{s:Qb}(h:Qo 100000000 s):(allJ s).length<=1000000000:=by
 have h1:=h.que
 have h2:=h.run
 simp only[allJ,Xab,Xar]
 omega
theorem J0{s:Qb}(h:StateP s->False):Qf s=false:=pB_f.2 h
structure RunsP (s:Qb):Prop where
 topo:Q3 s.topo
 up:s.up.length=s.topo.nodes.length
 runs:∀j,j<s.runs.length->Qm (nth s.runs j).job=true/\Qc0 s.topo (nth s.runs j).job (nth s.runs j).nodes
theorem Qhs{s:Qb}{r:Jn}(h:Jr s=some r):RunsP s:=by
 obtain⟨_,_,_,a,b⟩:=YO h
 exact⟨a.topo,a.up,fun j hj=>⟨(VZ.1 (b _ (QE hj)).1).1,(b _ (QE hj)).2⟩⟩
theorem Qlq{t:QX}{l:List Int}(h:Q3 t)(hl:Jo t l):lowI t l=((lowI t l).toNat:Int):=(Xbi (Qj1 h hl).1).symm
theorem YI{s:Qb}(hs:Qo 100000000 s):zAc 47 [Qz s] [.d (.b (Qf s))] []:=by
 refine zAC func47 fun w0 Z=>?_
 have g:=hs.mono (m:=1000000000) (by omega)
 have ad:=QJ s.ends
 have ae:=hs.end'
 have p:=Qdy g
 cases w:Jr s with
 | none=>
  rw[w]at p
  rw[J0 fun h=>by have:=h.room;rw[w]at this;cases this]
  repeat'(first|(refine zhm fun hb=>?_;try exact zab)|refine Qd ?_|(apply zch;exact zcg)|exact zhk|refine zg3 ?_ ?_|refine kmu p ?_|intro _)
  exact zrr
 | some r=>
  rw[w]at p
  have o:=Qhs w
  have al:=o.up
  have x:=Qih (Qmf hs)
  cases v:Yz (allJ s) with
  | false=>
   rw[v]at x
   rw[J0 fun h=>by have:=pB_t.2 h.jobs;unfold Yz at v;rw[v]at this;cases this]
   repeat'(first|(refine zhm fun hb=>?_;try exact zab)|refine Qd ?_|(apply zch;exact zcg)|exact zhk|refine zg3 ?_ ?_|refine zqd Q5 ?_|refine kmu p ?_|refine kmu (Qwy g) ?_|intro _)
   all_goals
    exact zrr
  | true=>
   rw[v]at x
   repeat'(first|(refine zhm fun hb=>?_;try exact zab)|refine Qd ?_|(apply zch;exact zcg)|exact zhk|refine zg3 ?_ ?_|refine zqd Q5 ?_|refine kmu p ?_|refine kmu (Qwy g) ?_|intro _)
   any_goals
    rw[J0 fun h=>by have q:=h.depth;have h2:=h.ends;omega]
    refine zr [] ?_ ?_
    repeat'(first|exact ze3|refine ze2 ?_ ?_|refine ze4 ?_|exact ze5|fail)
    all_goals exact zp rfl
   refine Qa (fun(n:Nat)=>⟨102,[(1,.ptr 1 0),(37,zL (runE s.runs)),(38,zI (s.runs.length:Nat)),(39,zI n)],[(1,.box 34 (JI s))]⟩) (fun n=>n<=s.runs.length/\∀j,j<n->RunP s (nth s.runs j)) (fun n=>s.runs.length-n) 0 (by exact⟨Xae _,fun j c=>absurd c (Xaq _)⟩) ?_ ?_
   ·exact zll
   ·rintro n ⟨hn,hp⟩
    have aj:=Qe s.runs
    by_cases a:n<s.runs.length
    ·obtain⟨c,t⟩:=o.runs n a
     have ai:=Qc (nth s.runs n).nodes
     have z:=t.num
     have ag:=(YA c).1
     have ac:=Qq s.up
     have ak:=hs.rno n a
     repeat'(first|(refine zhm fun hb=>?_;try exact zab)|refine Qd ?_|(apply zch;exact zcg)|exact zhk|refine zg3 ?_ ?_|intro _)
     refine Qa (fun(m:Nat)=>⟨102,[(1,.ptr 1 0),(6,.ptr 6 0),(37,zL (runE s.runs)),(38,zI (s.runs.length:Nat)),(39,zI n),(44,zL (intE (nth s.runs n).nodes)),(45,zI ((nth s.runs n).nodes.length:Nat)),(46,zI m)],[(1,.box 34 (JI s)),(6,.box 66 ((runD (nth s.runs n)).map AV.d))]⟩) (fun m=>m<=(nth s.runs n).nodes.length/\∀k,k<m->nth s.up (nth (nth s.runs n).nodes k).toNat=true) (fun m=>(nth s.runs n).nodes.length-m) 0 (by exact⟨Xae _,fun j c=>absurd c (Xaq _)⟩) ?_ ?_
     ·exact zll
     ·rintro m ⟨hm,u⟩
      by_cases f:m<(nth s.runs n).nodes.length
      ·have af:=t.nodes m f
       repeat'(first|(refine zhm fun hb=>?_;try exact zab)|refine Qd ?_|(apply zch;exact zcg)|exact zhk|refine zg3 ?_ ?_|intro _)
       ·rw[J0 fun h=>by have q:=(h.runs n a).up m f;simp_all]
        exact zrr
       ·refine⟨m+1,⟨by omega,fun k hk'=>?_⟩,by omega,?_⟩
        ·by_cases e:k=m
         ·subst e;assumption
         ·exact u k (by omega)
        exact zll
      ·have y:=Qj1 o.topo t.nodes
       have c4:=QsR o.topo t.nodes (by omega) (by omega)
       rw[Qlq o.topo t.nodes]at c4
       have c5:=QgX o.topo (s:=(lowI s.topo (nth s.runs n).nodes).toNat) (by omega)
       repeat'(first|(refine zhm fun hb=>?_;try exact zab)|refine Qd ?_|(apply zch;exact zcg)|exact zhk|refine zg3 ?_ ?_|refine kc (Qal (l:=(nth s.runs n).nodes) (by omega)) rfl rfl ?_|refine kq (Qal (l:=(nth s.runs n).nodes) (by omega)) rfl rfl ?_|intro _)
       ·rw[J0 fun h=>by have q:=Qou.2 (h.runs n a).asc;simp_all]
        exact zrr
       ·rw[J0 fun h=>by have q:=(h.runs n a).level;omega]
        exact zrr
       ·refine⟨n+1,⟨by omega,fun j hj'=>?_⟩,by omega,?_⟩
        ·by_cases e:j=n
         ·subst e
          exact⟨fun i hi=>u i (by omega),Qou.1 (by assumption),by omega⟩
         ·exact hp j (by omega)
        exact zll
    ·repeat'(first|(refine zhm fun hb=>?_;try exact zab)|refine Qd ?_|(apply zch;exact zcg)|exact zhk|refine zg3 ?_ ?_|intro _)
     refine Qa (fun(n:Nat)=>⟨102,[(1,.ptr 1 0),(77,zL (endE s.ends)),(78,zI (s.ends.length:Nat)),(79,zI n)],[(1,.box 34 (JI s))]⟩) (fun n=>n<=s.ends.length/\∀j,j<n->endB s.now (nth s.ends j)=true) (fun n=>s.ends.length-n) 0 (by exact⟨Xae _,fun j c=>absurd c (Xaq _)⟩) ?_ ?_
     ·exact zll
     ·rintro m ⟨hm,u⟩
      by_cases f:m<s.ends.length
      ·repeat'(first|(refine zhm fun hb=>?_;try exact zab)|refine Qd ?_|(apply zch;exact zcg)|exact zhk|refine zg3 ?_ ?_|refine zqd Q5 ?_|intro _)
       any_goals
        rw[J0 fun h=>by have q:=h.endsOk m f;simp only[endB,Xac,J4]at q;omega]
        refine zr [] ?_ ?_
        repeat'(first|exact ze3|refine ze2 ?_ ?_|refine ze4 ?_|exact ze5|fail)
        all_goals exact zp rfl
       refine⟨m+1,⟨by omega,fun j hj'=>?_⟩,by omega,?_⟩
       ·by_cases e:j=m
        ·subst e
         simp only[endB,Xac,J4]
         omega
        ·exact u j (by omega)
       exact zll
      ·rw[show Qf s=true from pB_t.2 ⟨by rw[w];rfl,by omega,pB_t.1 v,by omega,fun j c=>hp j (by omega),fun j c=>u j (by omega)⟩]
       repeat'(first|(refine zhm fun hb=>?_;try exact zab)|refine Qd ?_|(apply zch;exact zcg)|exact zhk|refine zg3 ?_ ?_|intro _)
       exact zrr

theorem Y3{s:Qb}(hs:Qo 100000000 s):zAc 124 [Qz s] [.d (.b (Qf s))] []:=by
 refine zAC func124 fun w0 Z=>?_
 have o:=hs.mono (m:=1000000000) (by omega)
 have af:=QJ s.ends
 have ag:=hs.end'
 have q:=QsT o
 cases w:Jr s with
 | none=>
  rw[w]at q
  rw[J0 fun h=>by have:=h.room;rw[w]at this;cases this]
  repeat'(first|(refine zhm fun hb=>?_;try exact zab)|refine Qd ?_|(apply zch;exact zcg)|exact zhk|refine zg3 ?_ ?_|refine kmu q ?_|intro _)
  exact zrr
 | some r=>
  rw[w]at q
  have c:=Qhs w
  have an:=c.up
  have x:=Qem (Qmf hs)
  cases v:Yz (allJ s) with
  | false=>
   rw[v]at x
   rw[J0 fun h=>by have:=pB_t.2 h.jobs;unfold Yz at v;rw[v]at this;cases this]
   repeat'(first|(refine zhm fun hb=>?_;try exact zab)|refine Qd ?_|(apply zch;exact zcg)|exact zhk|refine zg3 ?_ ?_|refine kmu q ?_|refine kmu (QbJ o) ?_|intro _)
   all_goals
    exact zrr
  | true=>
   rw[v]at x
   repeat'(first|(refine zhm fun hb=>?_;try exact zab)|refine Qd ?_|(apply zch;exact zcg)|exact zhk|refine zg3 ?_ ?_|refine kmu q ?_|refine kmu (QbJ o) ?_|intro _)
   any_goals
    rw[J0 fun h=>by have p:=h.depth;have h2:=h.ends;omega]
    refine zr [] ?_ ?_
    repeat'(first|exact ze3|refine ze2 ?_ ?_|refine ze4 ?_|exact ze5|fail)
    all_goals exact zp rfl
   refine Qa (fun(n:Nat)=>⟨127,[(1,.ptr 1 0),(41,zL (runE s.runs)),(42,zI (s.runs.length:Nat)),(43,zI n)],[(1,.box 34 (JI s))]⟩) (fun n=>n<=s.runs.length/\∀j,j<n->RunP s (nth s.runs j)) (fun n=>s.runs.length-n) 0 (by exact⟨Xae _,fun j f=>absurd f (Xaq _)⟩) ?_ ?_
   ·exact zll
   ·rintro n ⟨hn,hp⟩
    have al:=Qe s.runs
    by_cases a:n<s.runs.length
    ·obtain⟨f,u⟩:=c.runs n a
     have ak:=Qc (nth s.runs n).nodes
     have aa:=u.num
     have ai:=(YA f).1
     have ae:=Qq s.up
     have am:=hs.rno n a
     repeat'(first|(refine zhm fun hb=>?_;try exact zab)|refine Qd ?_|(apply zch;exact zcg)|exact zhk|refine zg3 ?_ ?_|intro _)
     refine Qa (fun(m:Nat)=>⟨127,[(1,.ptr 1 0),(6,.ptr 6 0),(41,zL (runE s.runs)),(42,zI (s.runs.length:Nat)),(43,zI n),(48,zL (intE (nth s.runs n).nodes)),(49,zI ((nth s.runs n).nodes.length:Nat)),(50,zI m)],[(1,.box 34 (JI s)),(6,.box 66 ((runD (nth s.runs n)).map AV.d))]⟩) (fun m=>m<=(nth s.runs n).nodes.length/\∀k,k<m->nth s.up (nth (nth s.runs n).nodes k).toNat=true/\(0<k->nth (nth s.runs n).nodes (k-1)<nth (nth s.runs n).nodes k)) (fun m=>(nth s.runs n).nodes.length-m) 0 (by exact⟨Xae _,fun j f=>absurd f (Xaq _)⟩) ?_ ?_
     ·exact zll
     ·rintro m ⟨hm,l⟩
      by_cases g:m<(nth s.runs n).nodes.length
      ·have ah:=u.nodes m g
       repeat'(first|(refine zhm fun hb=>?_;try exact zab)|refine Qd ?_|(apply zch;exact zcg)|exact zhk|refine zg3 ?_ ?_|intro _)
       ·rw[J0 fun h=>by have p:=(h.runs n a).up m g;simp_all]
        exact zrr
       ·rw[J0 fun h=>by have p:=(h.runs n a).asc (m-1) (by omega);rw[show m-1+1=m by omega]at p;omega]
        exact zrr
       ·refine⟨m+1,⟨by omega,fun k hk'=>?_⟩,by omega,?_⟩
        ·by_cases e:k=m
         ·subst e;exact⟨by assumption,fun _=>by omega⟩
         ·exact l k (by omega)
        exact zll
       ·refine⟨m+1,⟨by omega,fun k hk'=>?_⟩,by omega,?_⟩
        ·by_cases e:k=m
         ·subst e;exact⟨by assumption,fun _=>by omega⟩
         ·exact l k (by omega)
        exact zll
      ·have z:=Qj1 c.topo u.nodes
       have y:=c.topo.len
       have c4:=QsM c.topo u.nodes (by omega) (by omega)
       rw[Qlq c.topo u.nodes]at c4
       have c5:=Zs (t:=s.topo) (by omega) c.topo.valid s.topo.parents.length (lowI s.topo (nth s.runs n).nodes).toNat (by omega) (by omega)
       rw[Qk6 c.topo.valid c.topo.even (by omega)]at c5
       repeat'(first|(refine zhm fun hb=>?_;try exact zab)|refine Qd ?_|(apply zch;exact zcg)|exact zhk|refine zg3 ?_ ?_|intro _)
       ·rw[J0 fun h=>by have p:=(h.runs n a).level;omega]
        exact zrr
       ·refine⟨n+1,⟨by omega,fun j hj'=>?_⟩,by omega,?_⟩
        ·by_cases e:j=n
         ·subst e
          exact⟨fun i hi=>(l i (by omega)).1,fun i hi=>(l (i+1) (by omega)).2 (Xcq _),by omega⟩
         ·exact hp j (by omega)
        exact zll
    ·repeat'(first|(refine zhm fun hb=>?_;try exact zab)|refine Qd ?_|(apply zch;exact zcg)|exact zhk|refine zg3 ?_ ?_|intro _)
     refine Qa (fun(n:Nat)=>⟨127,[(1,.ptr 1 0),(90,zL (endE s.ends)),(91,zI (s.ends.length:Nat)),(92,zI n)],[(1,.box 34 (JI s))]⟩) (fun n=>n<=s.ends.length/\∀j,j<n->endB s.now (nth s.ends j)=true) (fun n=>s.ends.length-n) 0 (by exact⟨Xae _,fun j f=>absurd f (Xaq _)⟩) ?_ ?_
     ·exact zll
     ·rintro m ⟨hm,l⟩
      by_cases g:m<s.ends.length
      ·repeat'(first|(refine zhm fun hb=>?_;try exact zab)|refine Qd ?_|(apply zch;exact zcg)|exact zhk|refine zg3 ?_ ?_|intro _)
       any_goals
        rw[J0 fun h=>by have p:=h.endsOk m g;simp only[endB,Xac,J4]at p;omega]
        refine zr [] ?_ ?_
        repeat'(first|exact ze3|refine ze2 ?_ ?_|refine ze4 ?_|exact ze5|fail)
        all_goals exact zp rfl
       refine⟨m+1,⟨by omega,fun j hj'=>?_⟩,by omega,?_⟩
       ·by_cases e:j=m
        ·subst e
         simp only[endB,Xac,J4]
         omega
        ·exact l j (by omega)
       exact zll
      ·rw[show Qf s=true from pB_t.2 ⟨by rw[w];rfl,by omega,pB_t.1 v,by omega,fun j f=>hp j (by omega),fun j f=>l j (by omega)⟩]
       repeat'(first|(refine zhm fun hb=>?_;try exact zab)|refine Qd ?_|(apply zch;exact zcg)|exact zhk|refine zg3 ?_ ?_|intro _)
       exact zrr

def useS(n:Int)(v:V3)(x:Run):V3:=if hasI x.nodes n=true then(addO v x.job.need).getD zV else v
def useV(n:Int)(l:List Run):V3:=l.foldl (useS n) zV
noncomputable def useO (s:Qb) (n:Int):V3:=if Qf s=true/\0<=n/\n<s.topo.nodes.length then useV n s.runs else zV
theorem QcU{s:Qb}(h:Qf s=true):RunsP s:=by
 have a:=(pB_t.1 h).room
 cases b:Jr s with
 | none=>rw[b]at a;cases a
 | some r=>exact Qhs b
theorem QiD{s:Qb}{n:Int}:zAc 318 [Qz s,zI n] [.d (.b (decide (0<=n)&&decide (n<s.topo.nodes.length)))] []:=by
 refine zAC func318 fun w0 Z=>?_
 have a:=Qw s.topo.nodes
 repeat'(first|(refine zhm fun hb=>?_;try exact zab)|refine zUtp ?_|refine zg2 ?_ ?_|intro _)
 all_goals
  refine zr [] ?_ ?_
  repeat'(first|exact ze3|refine ze2 ?_ ?_|refine ze4 ?_|exact ze5|fail)
  exact zp (by rw[Xan];simp;omega)
end
end Go.Proofs.YtkdniahincpmaaaGreat
