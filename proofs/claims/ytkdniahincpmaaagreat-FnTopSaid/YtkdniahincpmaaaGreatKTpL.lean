/-
  The law FnTop, without its argument.
-/
import Derived.Test.YtkdniahincpmaaaGreatKSpL
import Derived.Test.YtkdniahincpmaaaGreatKTpP
set_option maxRecDepth 100000
set_option maxHeartbeats 16000000
namespace Go.Proofs.YtkdniahincpmaaaGreat
open Go Go.RowKit Tryz
section
attribute [local irreducible] AWp QI OpOk ACalls ChA QsOk MCalls NCalls EnC PY

theorem Qe1{t:QT}(ht:QW t){s:Nat}(hs:s<t.parents.length):zAc 64 [YT t,zI s] [.d (.b true)] []:=by
 refine zAC func64 fun w0 Z=>?_
 have h1:=ht.len
 have h2:=ht.nlen
 have a:=Qbo (t:=t) (by omega) (by omega)
 rw[JY.2 ht]at a
 have c:=Qc t.parents
 repeat'(first|(refine zhm fun hb=>?_;try exact zab)|refine Qd ?_|(apply zch;exact zcg)|exact zhk|refine zg3 ?_ ?_|refine zqd QV ?_|intro _)
 all_goals first|(exfalso;omega)|skip
 refine zr [] ?_ ?_
 repeat'(first|exact ze3|refine ze2 ?_ ?_|refine ze4 ?_|exact ze5|fail)
 all_goals exact zp (by first|rfl|(simp[inB];omega))
theorem Qvt{t:QT}(ht:QW t){s:Nat}(hs:s<t.parents.length):zAc 22 [YT t,zI s] [zI (lvl t.parents s)] []:=by
 refine zAC func22 fun w0 Z=>?_
 repeat'(first|(refine zhm fun hb=>?_;try exact zab)|refine Qd ?_|(apply zch;exact zcg)|exact zhk|refine zg3 ?_ ?_|refine kc (Qe1 ht hs) rfl rfl ?_|refine kc (QcE ht hs) rfl rfl ?_|refine kq (Qe1 ht hs) rfl rfl ?_|refine kq (QcE ht hs) rfl rfl ?_|intro _)
 refine zr [] ?_ ?_
 repeat'(first|exact ze3|refine ze2 ?_ ?_|refine ze4 ?_|exact ze5|fail)
 all_goals exact zp rfl
theorem Qw0{j:Job}(h:Qk j=true):1<=j.nodes:=by
 unfold Qk at h
 simp only[Xab,JA]at h
 omega
theorem Qwn(v u:V3):Qf (QfB v u)=true:=by
 unfold QfB addO valO
 split
 ·rename_i h
  rw[Xab,Xab]at h
  exact h.2.2
 ·rfl
theorem QqC:∀(l:List Run) (v:V3),Qf v=true->Qf (l.foldl (fun v x=>QfB v x.job.lic) v)=true
 | [],_,h=>h
 | x::l,v,_=>QqC l _ (Qwn v x.job.lic)
theorem Qya{l:List Run}{i:Nat}(h:i<l.length):licV (l.take (i+1))=(addO (licV (l.take i)) (nth l i).job.lic).getD zV:=by
 unfold licV
 rw[Qo h,XaJ]
 rfl
theorem lawTop_e{b:List UInt8}:zAc 4 [zL (QK b)] [.d (.b true)] []:=by
 refine zAC func4 fun w0 Z=>?_
 have aq:=Qy b
 by_cases hL:b.length<=1048576
 ·repeat'(first|(refine zhm fun hb=>?_;try exact zab)|refine Qd ?_|(apply zch;exact zcg)|exact zhk|refine zg3 ?_ ?_|(refine km [] (X9 hL) rfl rfl (fun i p=>?_);try dsimp only at p)|intro _)
  obtain⟨z,l⟩:=i
  obtain⟨hp,q,hl⟩:=p
  dsimp only at hp q hl ⊢
  have t:=QoC q
  have u:QG (wld1 z)=true:=by
   have e:(QxC b).1=wld1 z:=congrArg Prod.fst hp
   rw[<-e]
   exact Qo2 (Qp6 _ _)
  have c0:=Quv (X9 hL) (z,l) (fun x o=>by
   obtain⟨h1,h2⟩:=Prod.mk.inj (o.1.symm.trans hp)
   dsimp only
   rw[h1,h2])
  dsimp only at c0
  generalize wld1 z=w at t u c0
  obtain⟨t,y⟩:=t
  have r:Wz w:=⟨t.small,by rw[y];decide⟩
  have c1:=Ql5 r (l:=l) (by omega) (by rw[y,XaA];omega)
  have c4:=QuT r (l:=l) (by omega) (by rw[y,XaA];omega)
  have j:=Qrz (l:=l) t.small (by rw[y,XaA];omega)
  have m:=Qdz (l:=l) u l.length (Xaj _)
  rw[Xak]at m
  generalize JL w l=v at c1 c4 j m
  have c5:=Qlk j
  have c6:=QsE j
  have c7:=QeT j.v
  rw[m]at c7
  repeat'(first|(apply QP 6;kernel_rfl;exact rfl)|(refine zhm fun hb=>?_;try exact zab)|refine Qd ?_|(apply zch;exact zcg)|exact zhk|refine zg3 ?_ ?_|refine kmu c0 ?_|refine kmu c1 ?_|(refine km [] (c4) rfl rfl (fun i p=>?_);try dsimp only at p)|intro _)
  ·refine zr [] ?_ ?_
   repeat'(first|exact ze3|refine ze2 ?_ ?_|refine ze4 ?_|exact ze5|fail)
   all_goals exact zp rfl
  ·have g:Qe v.ctl.state=true:=(Wv.1 (QbV m (by assumption))).2.2.2
   have h:Qj 1048576 v.ctl.state:=j.ctl.state
   generalize v.ctl.state=s at g h ⊢
   obtain⟨ad,ay⟩:=QbB g
   have k:=(Zl g).topo
   have ae:=Qz s.topo.nodes
   have ag:=Qg s.runs
   have ax:=h.nod
   have a0:=h.run
   refine Qa (fun(i:Nat)=>⟨107,[(8,.ptr 8 0),(50,zL (Qw s.topo.nodes)),(51,zI (s.topo.nodes.length:Nat)),(52,zI i)],[(8,.box 34 (Q3 s))]⟩) (fun i=>i<=s.topo.nodes.length) (fun i=>s.topo.nodes.length-i) 0 (Xad _) ?_ ?_
   ·refine⟨rfl,?_,?_,rfl⟩
    repeat'(first|exact ze3|refine ze2 ?_ ?_|refine ze4 ?_|exact ze5|fail)
    all_goals exact zp (by first|rfl|exact ae)
   ·intro i p
    by_cases f:i<s.topo.nodes.length
    ·have c2:=Qzo (s:=s) (n:=(i:Int)) (h.mono (by omega))
     have c3:=Qbx (a:=useO s i) (b:=(nth s.topo.nodes i).cap)
     rw[QtC g f]at c3
     repeat'(first|(refine zhm fun hb=>?_;try exact zab)|refine Qd ?_|(apply zch;exact zcg)|exact zhk|refine zg3 ?_ ?_|intro _)
     refine⟨i+1,by omega,by omega,?_⟩
     refine⟨rfl,?_,?_,rfl⟩
     repeat'(first|exact ze3|refine ze2 ?_ ?_|refine ze4 ?_|exact ze5|fail)
     all_goals exact zp rfl
    ·obtain rfl:i=s.topo.nodes.length:=by omega
     repeat'(first|(refine zhm fun hb=>?_;try exact zab)|refine Qd ?_|(apply zch;exact zcg)|exact zhk|refine zg3 ?_ ?_|intro _)
     refine Qa (fun(i:Nat)=>⟨107,[(8,.ptr 8 0),(11,.ptr 11 0),(67,zL (runE s.runs)),(68,zI (s.runs.length:Nat)),(69,zI i)],[(8,.box 34 (Q3 s)),(11,.box 29 [zI (licV (s.runs.take i)).a,zI (licV (s.runs.take i)).b,zI (licV (s.runs.take i)).c])]⟩) (fun i=>i<=s.runs.length) (fun i=>s.runs.length-i) 0 (Xad _) ?_ ?_
     ·refine⟨rfl,?_,?_,rfl⟩
      repeat'(first|exact ze3|refine ze2 ?_ ?_|refine ze4 ?_|exact ze5|fail)
      all_goals exact zp (by first|rfl|exact ag)
     ·intro i p
      by_cases f:i<s.runs.length
      ·have o:=ad.ok _ (QC f)
       have hj:=(ZA.1 o.1).1
       have c4:=QlE (a:=licV (s.runs.take i)) (b:=(nth s.runs i).job.lic) (QqC _ _ rfl) (Z0 hj).2
       have al:=o.2.num
       have aw:1<=(nth s.runs i).job.nodes:=Qw0 hj
       have az:=h.rno i f
       have av:=QhN k o.2.nodes
       have c5:=Qmt k o.2.nodes (by omega) (by omega)
       rw[QhR k o.2.nodes]at c5
       have c6:=Qvt k (s:=(lowI s.topo (nth s.runs i).nodes).toNat) (by omega)
       obtain⟨f1,f2⟩:=QtM g f
       have ar:=Qc (nth s.runs i).nodes
       repeat'(first|(refine zhm fun hb=>?_;try exact zab)|refine Qd ?_|(apply zch;exact zcg)|exact zhk|refine zg3 ?_ ?_|intro _)
       all_goals first|(exfalso;omega)|skip
       refine⟨i+1,by omega,by omega,?_⟩
       rw[Qya f]
       refine⟨rfl,?_,?_,rfl⟩
       repeat'(first|exact ze3|refine ze2 ?_ ?_|refine ze4 ?_|exact ze5|fail)
       all_goals exact zp rfl
      ·obtain rfl:i=s.runs.length:=by omega
       rw[Xak]
       have c7:=Qbx (a:=licV s.runs) (b:=s.lic)
       rw[Qr5 g]at c7
       repeat'(first|(refine zhm fun hb=>?_;try exact zab)|refine Qd ?_|(apply zch;exact zcg)|exact zhk|refine zg3 ?_ ?_|intro _)
       refine zr [] ?_ ?_
       repeat'(first|exact ze3|refine ze2 ?_ ?_|refine ze4 ?_|exact ze5|fail)
       all_goals exact zp rfl
 ·repeat'(first|(refine zhm fun hb=>?_;try exact zab)|refine Qd ?_|(apply zch;exact zcg)|exact zhk|refine zg3 ?_ ?_|intro _)
  refine zr [] ?_ ?_
  repeat'(first|exact ze3|refine ze2 ?_ ?_|refine ze4 ?_|exact ze5|fail)
  all_goals exact zp rfl
end
end Go.Proofs.YtkdniahincpmaaaGreat
