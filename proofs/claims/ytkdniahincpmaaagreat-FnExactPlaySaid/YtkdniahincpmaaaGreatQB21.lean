/-
  Equal lists, equal states, the program's.
-/
import Derived.Test.YtkdniahincpmaaaGreatQB20
import Derived.Test.YtkdniahincpmaaaGreatQB31
set_option maxRecDepth 100000
set_option maxHeartbeats 16000000
namespace Go.Proofs.YtkdniahincpmaaaGreat
open Go Go.RowKit Tryz
section
attribute [local irreducible] AWp QM OpOk ACalls ChA QsOk MCalls EnC PY

theorem Xa{α:Type}[Inhabited α]{l l':List α}(h:l.length=l'.length)(hp:∀i,i<l.length->nth l i=nth l' i):l=l':=by
 refine XcL h fun i h1 h2=>?_
 rw[<-Jd h1,<-Jd h2]
 exact hp i h1
theorem Qqr{j k:Job}:(j.id==k.id&&(j.prio==k.prio&&(j.nodes==k.nodes&&((j.need.a==k.need.a&&(j.need.b==k.need.b&&(j.need.c==k.need.c&&true)))&&((j.lic.a==k.lic.a&&(j.lic.b==k.lic.b&&(j.lic.c==k.lic.c&&true)))&&(j.wall==k.wall&&(j.level==k.level&&true)))))))=true↔j=k:=by
 cases j with|mk a b c d e f g=>cases k with|mk a' b' c' d' e' f' g'=>cases d;cases e;cases d';cases e';simp[and_assoc]
theorem Qkc{j k:Job}:(j.id==k.id&&(j.prio==k.prio&&(j.nodes==k.nodes&&((j.need.a==k.need.a&&(j.need.b==k.need.b&&(j.need.c==k.need.c&&true)))&&((j.lic.a==k.lic.a&&(j.lic.b==k.lic.b&&(j.lic.c==k.lic.c&&true)))&&(j.wall==k.wall&&(j.level==k.level&&true)))))))=false↔j≠k:=by
 rw[Ne,<-Qqr,XbF]
theorem Qxu{j k:Qar}:(j.leaf==k.leaf&&((j.cap.a==k.cap.a&&(j.cap.b==k.cap.b&&(j.cap.c==k.cap.c&&true)))&&true))=true↔j=k:=by
 cases j with|mk a d=>cases k with|mk a' d'=>cases d;cases d';simp
theorem Qyy{j k:Qar}:(j.leaf==k.leaf&&((j.cap.a==k.cap.a&&(j.cap.b==k.cap.b&&(j.cap.c==k.cap.c&&true)))&&true))=false↔j≠k:=by
 rw[Ne,<-Qxu,XbF]
theorem Qva{j k:QbO}:(j.id==k.id&&(j.at'==k.at'&&(j.why==k.why&&true)))=true↔j=k:=by
 cases j;cases k;simp
theorem QmZ{j k:QbO}:(j.id==k.id&&(j.at'==k.at'&&(j.why==k.why&&true)))=false↔j≠k:=by
 rw[Ne,<-Qva,XbF]
theorem Qo4{l l':List Int}(h:l.length<=1000000000):zAc 200 [zL (intE l),zL (intE l')] [.d (.b (pB (l=l')))] []:=by
  refine zAC func200 fun w0 Z=>?_
  have hl:=Qc l
  have m:=Qc l'
  by_cases a:l.length=l'.length
  · repeat'(first|(refine zhm fun hb=>?_;try exact zab)|refine Qd ?_|(apply zch;exact zcg)|exact zhk|refine zg3 ?_ ?_|intro _)
    refine Qa (fun(i:Nat)=>⟨26,[(0,zL (intE l)),(1,zL (intE l')),(12,zI (l.length:Nat)),(13,zI i)],[]⟩) (fun i=>i<=l.length/\∀j,j<i->nth l j=nth l' j) (fun i=>l.length-i) 0 (by exact⟨Xae _,fun j hj=>absurd hj (Xaq _)⟩) ?_ ?_
    · exact zll
    · rintro i ⟨hi,g⟩
      by_cases k:i<l.length
      · repeat'(first|(refine zhm fun hb=>?_;try exact zab)|refine Qd ?_|(apply zch;exact zcg)|exact zhk|refine zg3 ?_ ?_|intro _)
        all_goals first
          | (have f:nth l i≠nth l' i:=(by assumption)
             rw[pB_f.2 (fun e:l=l'=>f (by rw[e]))]
             refine zr [] ?_ ?_
             repeat'(first|exact ze3|refine ze2 ?_ ?_|refine ze4 ?_|exact ze5|fail)
             all_goals exact zp rfl)
          | (have c:nth l i=nth l' i:=(by assumption)
             refine⟨i+1,⟨by omega,fun j hj=>?_⟩,by omega,?_⟩
             · by_cases e:j=i
               · rw[e];exact c
               · exact g j (by omega)
             refine⟨rfl,?_,?_,rfl⟩
             repeat'(first|exact ze3|refine ze2 ?_ ?_|refine ze4 ?_|exact ze5|fail)
             all_goals exact zp rfl)
      · rw[pB_t.2 (Xa a fun j hj=>g j (by omega))]
        repeat'(first|(refine zhm fun hb=>?_;try exact zab)|refine Qd ?_|(apply zch;exact zcg)|exact zhk|refine zg3 ?_ ?_|intro _)
        exact zrr
  · rw[pB_f.2 (fun e:l=l'=>a (by rw[e]))]
    repeat'(first|(refine zhm fun hb=>?_;try exact zab)|refine Qd ?_|(apply zch;exact zcg)|exact zhk|refine zg3 ?_ ?_|intro _)
    exact zrr
theorem Qnv{l l':List Int}(h:l.length<=1000000000):zAc 278 [zL (intE l),zL (intE l')] [.d (.b (pB (l=l')))] []:=by
  refine zAC func278 fun w0 Z=>?_
  have hl:=Qc l
  have m:=Qc l'
  by_cases a:l.length=l'.length
  · repeat'(first|(refine zhm fun hb=>?_;try exact zab)|refine Qd ?_|(apply zch;exact zcg)|exact zhk|refine zg3 ?_ ?_|intro _)
    refine Qa (fun(i:Nat)=>⟨26,[(0,zL (intE l)),(1,zL (intE l')),(12,zI (l.length:Nat)),(13,zI i)],[]⟩) (fun i=>i<=l.length/\∀j,j<i->nth l j=nth l' j) (fun i=>l.length-i) 0 (by exact⟨Xae _,fun j hj=>absurd hj (Xaq _)⟩) ?_ ?_
    · exact zll
    · rintro i ⟨hi,g⟩
      by_cases k:i<l.length
      · repeat'(first|(refine zhm fun hb=>?_;try exact zab)|refine Qd ?_|(apply zch;exact zcg)|exact zhk|refine zg3 ?_ ?_|intro _)
        all_goals first
          | (have f:nth l i≠nth l' i:=(by assumption)
             rw[pB_f.2 (fun e:l=l'=>f (by rw[e]))]
             refine zr [] ?_ ?_
             repeat'(first|exact ze3|refine ze2 ?_ ?_|refine ze4 ?_|exact ze5|fail)
             all_goals exact zp rfl)
          | (have c:nth l i=nth l' i:=(by assumption)
             refine⟨i+1,⟨by omega,fun j hj=>?_⟩,by omega,?_⟩
             · by_cases e:j=i
               · rw[e];exact c
               · exact g j (by omega)
             refine⟨rfl,?_,?_,rfl⟩
             repeat'(first|exact ze3|refine ze2 ?_ ?_|refine ze4 ?_|exact ze5|fail)
             all_goals exact zp rfl)
      · rw[pB_t.2 (Xa a fun j hj=>g j (by omega))]
        repeat'(first|(refine zhm fun hb=>?_;try exact zab)|refine Qd ?_|(apply zch;exact zcg)|exact zhk|refine zg3 ?_ ?_|intro _)
        exact zrr
  · rw[pB_f.2 (fun e:l=l'=>a (by rw[e]))]
    repeat'(first|(refine zhm fun hb=>?_;try exact zab)|refine Qd ?_|(apply zch;exact zcg)|exact zhk|refine zg3 ?_ ?_|intro _)
    exact zrr
theorem Qpi{l l':List Job}(h:l.length<=1000000000):zAc 116 [zL (jobE l),zL (jobE l')] [.d (.b (pB (l=l')))] []:=by
  refine zAC func116 fun w0 Z=>?_
  have hl:=Qj l
  have m:=Qj l'
  by_cases a:l.length=l'.length
  · repeat'(first|(refine zhm fun hb=>?_;try exact zab)|refine Qd ?_|(apply zch;exact zcg)|exact zhk|refine zg3 ?_ ?_|intro _)
    refine Qa (fun(i:Nat)=>⟨26,[(0,zL (jobE l)),(1,zL (jobE l')),(12,zI (l.length:Nat)),(13,zI i)],[]⟩) (fun i=>i<=l.length/\∀j,j<i->nth l j=nth l' j) (fun i=>l.length-i) 0 (by exact⟨Xae _,fun j hj=>absurd hj (Xaq _)⟩) ?_ ?_
    · exact zll
    · rintro i ⟨hi,g⟩
      by_cases k:i<l.length
      · repeat'(first|(refine zhm fun hb=>?_;try exact zab)|refine Qd ?_|(apply zch;exact zcg)|exact zhk|refine zg3 ?_ ?_|intro _)
        all_goals first
          | (have f:nth l i≠nth l' i:=(Qkc.1 (by assumption))
             rw[pB_f.2 (fun e:l=l'=>f (by rw[e]))]
             refine zr [] ?_ ?_
             repeat'(first|exact ze3|refine ze2 ?_ ?_|refine ze4 ?_|exact ze5|fail)
             all_goals exact zp rfl)
          | (have c:nth l i=nth l' i:=(Qqr.1 (by assumption))
             refine⟨i+1,⟨by omega,fun j hj=>?_⟩,by omega,?_⟩
             · by_cases e:j=i
               · rw[e];exact c
               · exact g j (by omega)
             refine⟨rfl,?_,?_,rfl⟩
             repeat'(first|exact ze3|refine ze2 ?_ ?_|refine ze4 ?_|exact ze5|fail)
             all_goals exact zp rfl)
      · rw[pB_t.2 (Xa a fun j hj=>g j (by omega))]
        repeat'(first|(refine zhm fun hb=>?_;try exact zab)|refine Qd ?_|(apply zch;exact zcg)|exact zhk|refine zg3 ?_ ?_|intro _)
        exact zrr
  · rw[pB_f.2 (fun e:l=l'=>a (by rw[e]))]
    repeat'(first|(refine zhm fun hb=>?_;try exact zab)|refine Qd ?_|(apply zch;exact zcg)|exact zhk|refine zg3 ?_ ?_|intro _)
    exact zrr
theorem QuS{l l':List Qar}(h:l.length<=1000000000):zAc 201 [zL (Qr l),zL (Qr l')] [.d (.b (pB (l=l')))] []:=by
  refine zAC func201 fun w0 Z=>?_
  have hl:=Qw l
  have m:=Qw l'
  by_cases a:l.length=l'.length
  · repeat'(first|(refine zhm fun hb=>?_;try exact zab)|refine Qd ?_|(apply zch;exact zcg)|exact zhk|refine zg3 ?_ ?_|intro _)
    refine Qa (fun(i:Nat)=>⟨26,[(0,zL (Qr l)),(1,zL (Qr l')),(12,zI (l.length:Nat)),(13,zI i)],[]⟩) (fun i=>i<=l.length/\∀j,j<i->nth l j=nth l' j) (fun i=>l.length-i) 0 (by exact⟨Xae _,fun j hj=>absurd hj (Xaq _)⟩) ?_ ?_
    · exact zll
    · rintro i ⟨hi,g⟩
      by_cases k:i<l.length
      · repeat'(first|(refine zhm fun hb=>?_;try exact zab)|refine Qd ?_|(apply zch;exact zcg)|exact zhk|refine zg3 ?_ ?_|intro _)
        all_goals first
          | (have f:nth l i≠nth l' i:=(Qyy.1 (by assumption))
             rw[pB_f.2 (fun e:l=l'=>f (by rw[e]))]
             refine zr [] ?_ ?_
             repeat'(first|exact ze3|refine ze2 ?_ ?_|refine ze4 ?_|exact ze5|fail)
             all_goals exact zp rfl)
          | (have c:nth l i=nth l' i:=(Qxu.1 (by assumption))
             refine⟨i+1,⟨by omega,fun j hj=>?_⟩,by omega,?_⟩
             · by_cases e:j=i
               · rw[e];exact c
               · exact g j (by omega)
             refine⟨rfl,?_,?_,rfl⟩
             repeat'(first|exact ze3|refine ze2 ?_ ?_|refine ze4 ?_|exact ze5|fail)
             all_goals exact zp rfl)
      · rw[pB_t.2 (Xa a fun j hj=>g j (by omega))]
        repeat'(first|(refine zhm fun hb=>?_;try exact zab)|refine Qd ?_|(apply zch;exact zcg)|exact zhk|refine zg3 ?_ ?_|intro _)
        exact zrr
  · rw[pB_f.2 (fun e:l=l'=>a (by rw[e]))]
    repeat'(first|(refine zhm fun hb=>?_;try exact zab)|refine Qd ?_|(apply zch;exact zcg)|exact zhk|refine zg3 ?_ ?_|intro _)
    exact zrr
theorem QpJ{l l':List QbO}(h:l.length<=1000000000):zAc 119 [zL (endE l),zL (endE l')] [.d (.b (pB (l=l')))] []:=by
  refine zAC func119 fun w0 Z=>?_
  have hl:=QJ l
  have m:=QJ l'
  by_cases a:l.length=l'.length
  · repeat'(first|(refine zhm fun hb=>?_;try exact zab)|refine Qd ?_|(apply zch;exact zcg)|exact zhk|refine zg3 ?_ ?_|intro _)
    refine Qa (fun(i:Nat)=>⟨26,[(0,zL (endE l)),(1,zL (endE l')),(12,zI (l.length:Nat)),(13,zI i)],[]⟩) (fun i=>i<=l.length/\∀j,j<i->nth l j=nth l' j) (fun i=>l.length-i) 0 (by exact⟨Xae _,fun j hj=>absurd hj (Xaq _)⟩) ?_ ?_
    · exact zll
    · rintro i ⟨hi,g⟩
      by_cases k:i<l.length
      · repeat'(first|(refine zhm fun hb=>?_;try exact zab)|refine Qd ?_|(apply zch;exact zcg)|exact zhk|refine zg3 ?_ ?_|intro _)
        all_goals first
          | (have f:nth l i≠nth l' i:=(QmZ.1 (by assumption))
             rw[pB_f.2 (fun e:l=l'=>f (by rw[e]))]
             refine zr [] ?_ ?_
             repeat'(first|exact ze3|refine ze2 ?_ ?_|refine ze4 ?_|exact ze5|fail)
             all_goals exact zp rfl)
          | (have c:nth l i=nth l' i:=(Qva.1 (by assumption))
             refine⟨i+1,⟨by omega,fun j hj=>?_⟩,by omega,?_⟩
             · by_cases e:j=i
               · rw[e];exact c
               · exact g j (by omega)
             refine⟨rfl,?_,?_,rfl⟩
             repeat'(first|exact ze3|refine ze2 ?_ ?_|refine ze4 ?_|exact ze5|fail)
             all_goals exact zp rfl)
      · rw[pB_t.2 (Xa a fun j hj=>g j (by omega))]
        repeat'(first|(refine zhm fun hb=>?_;try exact zab)|refine Qd ?_|(apply zch;exact zcg)|exact zhk|refine zg3 ?_ ?_|intro _)
        exact zrr
  · rw[pB_f.2 (fun e:l=l'=>a (by rw[e]))]
    repeat'(first|(refine zhm fun hb=>?_;try exact zab)|refine Qd ?_|(apply zch;exact zcg)|exact zhk|refine zg3 ?_ ?_|intro _)
    exact zrr

theorem Qv9{t u:QX}:t=u↔t.parents=u.parents/\t.nodes=u.nodes:=by cases t;cases u;simp
theorem QuM{x y:Run}:x=y↔x.job=y.job/\x.at'=y.at'/\x.nodes=y.nodes:=by cases x;cases y;simp
theorem QfI{t u:QX}(h1:t.parents.length<=1000000000)(h2:t.nodes.length<=1000000000):zAc 114 [YW t,YW u] [.d (.b (pB (t=u)))] []:=by
 refine zAC func114 fun w0 Z=>?_
 have a:=Qo4 (l:=t.parents) (l':=u.parents) h1
 have c2:=QuS (l:=t.nodes) (l':=u.nodes) h2
 by_cases e:t.parents=u.parents
 ·rw[pB_t.2 e]at a
  repeat'(first|(refine zhm fun hb=>?_;try exact zab)|refine zUto ?_|refine zg2 ?_ ?_|intro _)
  refine zr [] ?_ ?_
  repeat'(first|exact ze3|refine ze2 ?_ ?_|refine ze4 ?_|exact ze5|fail)
  all_goals exact zp (by rw[Xan,pB_t,pB_t,Qv9];exact⟨fun h=>⟨e,h⟩,fun h=>h.2⟩)
 ·rw[pB_f.2 e]at a
  rw[pB_f.2 (fun h:t=u=>e (by rw[h]))]
  repeat'(first|(refine zhm fun hb=>?_;try exact zab)|refine zUto ?_|refine zg2 ?_ ?_|intro _)
  exact zrr
theorem Qoq{x y:Run}(h:x.nodes.length<=1000000000):zAc 118 [runA x,runA y] [.d (.b (pB (x=y)))] []:=by
 refine zAC func118 fun w0 Z=>?_
 have c1:=Qo4 (l:=x.nodes) (l':=y.nodes) h
 repeat'(first|(refine zhm fun hb=>?_;try exact zab)|refine zUto ?_|refine zg2 ?_ ?_|intro _)
 all_goals
  refine zr [] ?_ ?_
  repeat'(first|exact ze3|refine ze2 ?_ ?_|refine ze4 ?_|exact ze5|fail)
 all_goals first
  | exact zp (by rw[pB_f.2 (fun e:x=y=>(Qkc.1 (by assumption)) (by rw[e]))])
  | exact zp (by rw[pB_f.2 (fun e:x=y=>absurd (show x.at'=y.at' by rw[e]) (by assumption))])
  | exact zp (by rw[Xan,pB_t,pB_t,QuM];exact⟨fun h=>⟨Qqr.1 (by assumption),by assumption,h⟩,fun h=>h.2.2⟩)
theorem Qgn{s u:Qb}:s=u↔s.topo=u.topo/\s.up=u.up/\s.lic=u.lic/\s.depth=u.depth/\s.now=u.now/\s.queue=u.queue/\s.runs=u.runs/\s.ends=u.ends:=by cases s;cases u;simp
theorem Qjf{l l':List Run}(h:l.length<=1000000000)(hr:∀j,j<l.length->(nth l j).nodes.length<=1000000000):zAc 117 [zL (runE l),zL (runE l'),.clo 118 []] [.d (.b (pB (l=l')))] []:=by
 refine zAC func117 fun w0 Z=>?_
 have hl:=Qe l
 have m:=Qe l'
 by_cases a:l.length=l'.length
 ·repeat'(first|(refine zhm fun hb=>?_;try exact zab)|refine zUtp ?_|refine zg2 ?_ ?_|intro _)
  refine Qa (fun(i:Nat)=>⟨32,[(1,zL (runE l')),(2,.clo 118 []),(15,zL (runE l)),(16,zI (l.length:Nat)),(17,zI i)],[]⟩) (fun i=>i<=l.length/\∀j,j<i->nth l j=nth l' j) (fun i=>l.length-i) 0 (by exact⟨Xae _,fun j hj=>absurd hj (Xaq _)⟩) ?_ ?_
  ·exact zll
  ·rintro i ⟨hi,k⟩
   by_cases g:i<l.length
   ·have c:=Qoq (x:=nth l i) (y:=nth l' i) (hr i g)
    by_cases f:nth l i=nth l' i
    ·rw[pB_t.2 f]at c
     repeat'(first|(refine zhm fun hb=>?_;try exact zab)|refine zUtp ?_|refine zg2 ?_ ?_|refine kv (c) rfl rfl rfl rfl rfl ?_|intro _)
     refine⟨i+1,⟨by omega,fun j hj=>?_⟩,by omega,?_⟩
     ·by_cases e:j=i
      ·rw[e];exact f
      ·exact k j (by omega)
     exact zll
    ·rw[pB_f.2 f]at c
     rw[pB_f.2 (fun e:l=l'=>f (by rw[e]))]
     repeat'(first|(refine zhm fun hb=>?_;try exact zab)|refine zUtp ?_|refine zg2 ?_ ?_|refine kv (c) rfl rfl rfl rfl rfl ?_|intro _)
     exact zrr
   ·rw[pB_t.2 (Xa a fun j hj=>k j (by omega))]
    repeat'(first|(refine zhm fun hb=>?_;try exact zab)|refine zUtp ?_|refine zg2 ?_ ?_|intro _)
    exact zrr
 ·rw[pB_f.2 (fun e:l=l'=>a (by rw[e]))]
  repeat'(first|(refine zhm fun hb=>?_;try exact zab)|refine zUtp ?_|refine zg2 ?_ ?_|intro _)
  exact zrr

theorem Qrf{l l':List Bool}(h:l.length<=1000000000):zAc 115 [zL (Qk l),zL (Qk l')] [.d (.b (pB (l=l')))] []:=by
  refine zAC func115 fun w0 Z=>?_
  have hl:=Qq l
  have n:=Qq l'
  by_cases c:l.length=l'.length
  · repeat'(first|(refine zhm fun hb=>?_;try exact zab)|refine Qd ?_|(apply zch;exact zcg)|exact zhk|refine zg3 ?_ ?_|intro _)
    refine Qa (fun(i:Nat)=>⟨26,[(0,zL (Qk l)),(1,zL (Qk l')),(12,zI (l.length:Nat)),(13,zI i)],[]⟩) (fun i=>i<=l.length/\∀j,j<i->nth l j=nth l' j) (fun i=>l.length-i) 0 (by exact⟨Xae _,fun j hj=>absurd hj (Xaq _)⟩) ?_ ?_
    · exact zll
    · rintro i ⟨hi,k⟩
      by_cases m:i<l.length
      · repeat'(first|(refine zhm fun hb=>?_;try exact zab)|refine Qd ?_|(apply zch;exact zcg)|exact zhk|refine zg3 ?_ ?_|intro _)
        all_goals first
          | (have g:nth l i≠nth l' i:=(by assumption)
             rw[pB_f.2 (fun e:l=l'=>g (by rw[e]))]
             refine zr [] ?_ ?_
             repeat'(first|exact ze3|refine ze2 ?_ ?_|refine ze4 ?_|exact ze5|fail)
             all_goals exact zp rfl)
          | (have f:nth l i=nth l' i:=(by assumption)
             refine⟨i+1,⟨by omega,fun j hj=>?_⟩,by omega,?_⟩
             · by_cases e:j=i
               · rw[e];exact f
               · exact k j (by omega)
             refine⟨rfl,?_,?_,rfl⟩
             repeat'(first|exact ze3|refine ze2 ?_ ?_|refine ze4 ?_|exact ze5|fail)
             all_goals exact zp rfl)
      · rw[pB_t.2 (Xa c fun j hj=>k j (by omega))]
        repeat'(first|(refine zhm fun hb=>?_;try exact zab)|refine Qd ?_|(apply zch;exact zcg)|exact zhk|refine zg3 ?_ ?_|intro _)
        exact zrr
  · rw[pB_f.2 (fun e:l=l'=>c (by rw[e]))]
    repeat'(first|(refine zhm fun hb=>?_;try exact zab)|refine Qd ?_|(apply zch;exact zcg)|exact zhk|refine zg3 ?_ ?_|intro _)
    exact zrr
noncomputable def Z5 (a b:Qb):Bool:=Qf a&&(Qf b&&pB (a=b))
theorem ZL{s u:Qb}(h:Qo 1000000000 s):zAc 48 [Qz s,Qz u] [.d (.b (pB (s=u)))] []:=by
 refine zAC func48 fun w0 Z=>?_
 by_cases e:s=u
 ·subst e
  rw[pB_t.2 rfl]
  have a:=QfI (t:=s.topo) (u:=s.topo) h.par h.nod
  have c:=Qrf (l:=s.up) (l':=s.up) h.up
  have f:=Qpi (l:=s.queue) (l':=s.queue) h.que
  have g:=Qjf (l:=s.runs) (l':=s.runs) h.run h.rno
  have i:=QpJ (l:=s.ends) (l':=s.ends) h.end'
  rw[pB_t.2 rfl]at a c f g i
  repeat'(first|(refine zhm fun hb=>?_;try exact zab)|refine zUto ?_|refine zg2 ?_ ?_|intro _)
  all_goals first|exact absurd rfl (Qd1.1 (by assumption))|exact absurd rfl (by assumption)|skip
  refine zr [] ?_ ?_
  repeat'(first|exact ze3|refine ze2 ?_ ?_|refine ze4 ?_|exact ze5|fail)
  all_goals exact zp (by first|rfl|simp)
 ·rw[pB_f.2 e]
  have a:=QfI (t:=s.topo) (u:=u.topo) h.par h.nod
  have c:=Qrf (l:=s.up) (l':=u.up) h.up
  have f:=Qpi (l:=s.queue) (l':=u.queue) h.que
  have g:=Qjf (l:=s.runs) (l':=u.runs) h.run h.rno
  have i:=QpJ (l:=s.ends) (l':=u.ends) h.end'
  repeat'(first|(refine zhm fun hb=>?_;try exact zab)|refine zUto ?_|refine zg2 ?_ ?_|intro _)
  all_goals
   refine zr [] ?_ ?_
   repeat'(first|exact ze3|refine ze2 ?_ ?_|refine ze4 ?_|exact ze5|fail)
  all_goals first|exact zp rfl|exact zp (pB_f.2 (fun hE=>e (Qgn.2 ⟨pB_t.1 (by assumption),pB_t.1 (by assumption),Qfr.1 (by assumption),by assumption,by assumption,pB_t.1 (by assumption),pB_t.1 (by assumption),hE⟩))).symm|exact zp (pB_f.2 (fun hE=>e (Qgn.2 ⟨pB_t.1 (by assumption),pB_t.1 (by assumption),Qfr.1 (by assumption),by assumption,by assumption,pB_t.1 (by assumption),pB_t.1 (by assumption),hE⟩)))
theorem QdJ{a b:Qb}(ha:Qo 100000000 a)(hb':Qo 100000000 b):zAc 11 [Qz a,Qz b] [.d (.b (Z5 a b))] []:=by
 refine zAC func11 fun w0 Z=>?_
 have c:=YI ha
 have e:=YI hb'
 have c3:=ZL (s:=a) (u:=b) (ha.mono (by omega))
 unfold Z5
 cases f:Qf a with
 | false=>
  rw[f]at c
  repeat'(first|(refine zhm fun hb=>?_;try exact zab)|refine zUto ?_|refine zg2 ?_ ?_|intro _)
  exact zrr
 | true=>
  rw[f]at c
  cases g:Qf b with
  | false=>
   rw[g]at e
   repeat'(first|(refine zhm fun hb=>?_;try exact zab)|refine zUto ?_|refine zg2 ?_ ?_|intro _)
   exact zrr
  | true=>
   rw[g]at e
   repeat'(first|(refine zhm fun hb=>?_;try exact zab)|refine zUto ?_|refine zg2 ?_ ?_|intro _)
   exact zrr
theorem Qid{s:Qb}(h:Qf s=true):Qfs s:=by
 have b:=(pB_t.1 h).room
 cases a:Jr s with
 | none=>rw[a]at b;cases b
 | some r=>exact(YO a).2.2.2.1
theorem Qen{a b:Qb}(h:a=b->False):Z5 a b=false:=by
 unfold Z5
 rw[pB_f.2 h,Xcm,Xcm]
theorem QoE{a b:Qb}(h1:Qf a=true)(h2:Qf b=true)(h:a=b):Z5 a b=true:=by
 unfold Z5
 rw[pB_t.2 h,h1,h2];rfl
theorem QdU{a b:Qb}(ha:Qo 100000000 a)(hb':Qo 100000000 b):zAc 217 [Qz a,Qz b] [.d (.b (Z5 a b))] []:=by
  refine QeZ tt func217 rfl rfl rfl (fun w0 Z=>?_)
  have g:=Y3 ha
  have h:=Y3 hb'
  cases i:Qf a with
  | false=>
    rw[i]at g
    rw[show Z5 a b=false from by unfold Z5;rw[i];rfl]
    repeat'(first|refine zst ?_|(refine zhm fun hb=>?_;try exact zab)|refine zdr ?_|(apply zch;exact zcg)|refine QaP.mk fun w0 Z O=>?_|exact zhk|refine zg3 ?_ ?_|refine zln fun _=>?_|refine zop ?_|refine kc (g) rfl rfl ?_|refine kq (g) rfl rfl ?_|fail)
    exact zr [] zae zae
  | true=>
    rw[i]at g
    cases n:Qf b with
    | false=>
      rw[n]at h
      rw[show Z5 a b=false from by unfold Z5;rw[i,n];rfl]
      repeat'(first|refine zst ?_|(refine zhm fun hb=>?_;try exact zab)|refine zdr ?_|(apply zch;exact zcg)|refine QaP.mk fun w0 Z O=>?_|exact zhk|refine zg3 ?_ ?_|refine zln fun _=>?_|refine zop ?_|refine kc (g) rfl rfl ?_|refine kc (h) rfl rfl ?_|refine kq (g) rfl rfl ?_|refine kq (h) rfl rfl ?_|fail)
      exact zr [] zae zae
    | true=>
      rw[n]at h
      have s:=Qid i
      have t:=Qid n
      have u:=QfG s.topo
      have v:=QfG t.topo
      have l1:=ha.up;have l2:=ha.que;have l3:=ha.run;have l4:=ha.end'
      have l5:=hb'.up;have l6:=hb'.que;have l7:=hb'.run;have l8:=hb'.end'
      repeat'(first|refine zst ?_|(refine zhm fun hb=>?_;try exact zab)|refine zdr ?_|(apply zch;exact zcg)|refine QaP.mk fun w0 Z O=>?_|exact zhk|refine zg3 ?_ ?_|refine zln fun _=>?_|refine zop ?_|refine kc (g) rfl rfl ?_|refine kc (h) rfl rfl ?_|refine kc (u) rfl rfl ?_|refine kc (v) rfl rfl ?_|refine kq (g) rfl rfl ?_|refine kq (h) rfl rfl ?_|refine kq (u) rfl rfl ?_|refine kq (v) rfl rfl ?_|fail)
      all_goals first
        | (refine zr [] ?_ ?_
           repeat'(first|apply And.intro|exact ze0|refine ze1 ?_|refine zei ?_ ?_|exact rfl|trivial)
           all_goals exact zp (Qen fun e=>by subst e;first|exact absurd rfl (by assumption)|exact absurd rfl (Qd1.1 (by assumption))|exact absurd rfl (Qkc.1 (by assumption))|exact absurd rfl (QmZ.1 (by assumption))|omega).symm)
        | skip
      have x:a.topo=b.topo:=Qra s.topo t.topo (by assumption)
      have eL:a.lic=b.lic:=Qfr.1 (by assumption)
      have y:a.depth=b.depth:=by assumption
      have eN:a.now=b.now:=by assumption
      have eU:a.up.length=b.up.length:=by rw[s.up,t.up,x]
      have eQ:a.queue.length=b.queue.length:=by omega
      have eR:a.runs.length=b.runs.length:=by omega
      have z:a.ends.length=b.ends.length:=by omega
      refine Qa (fun(k:Nat)=>⟨179,[(2,.ptr 2 0),(3,.ptr 3 0),(76,zI (a.up.length:Nat)),(77,zI k)],[(2,.box 34 (JI a)),(3,.box 34 (JI b))]⟩) (fun k=>k<=a.up.length/\∀j,j<k->nth a.up j=nth b.up j) (fun k=>a.up.length-k) 0 (by exact⟨Xae _,fun j hj=>absurd hj (Xaq _)⟩) ?_ ?_
      · refine⟨rfl,?_,?_,rfl⟩
        repeat'(first|apply And.intro|exact ze0|refine ze1 ?_|refine zei ?_ ?_|exact rfl|trivial)
        all_goals exact zp (by first|rfl|exact Qq _)
      rintro k ⟨m,f⟩
      by_cases c:k<a.up.length
      · repeat'(first|refine zst ?_|(refine zhm fun hb=>?_;try exact zab)|(apply QY 6;kernel_rfl;exact rfl)|refine zdr ?_|(apply zch;exact zcg)|refine QaP.mk fun w0 Z O=>?_|exact zhk|refine zg3 ?_ ?_|refine zln fun _=>?_|refine zop ?_|fail)
        all_goals first
          | (refine zr [] ?_ ?_
             repeat'(first|apply And.intro|exact ze0|refine ze1 ?_|refine zei ?_ ?_|exact rfl|trivial)
             all_goals exact zp (Qen fun e=>by subst e;first|exact absurd rfl (by assumption)|exact absurd rfl (Qd1.1 (by assumption))|exact absurd rfl (Qkc.1 (by assumption))|exact absurd rfl (QmZ.1 (by assumption))|exact pB_f.1 (by assumption) rfl|omega).symm)
          | (refine⟨k+1,⟨by omega,fun j hj=>?_⟩,by omega,?_⟩
             · by_cases e:j=k
               · rw[e];assumption
               · exact f j (by omega)
             refine⟨rfl,?_,?_,rfl⟩
             repeat'(first|apply And.intro|exact ze0|refine ze1 ?_|refine zei ?_ ?_|exact rfl|trivial)
             all_goals exact zp rfl)
      have r:a.up=b.up:=Xa eU fun j hj=>f j (by omega)
      repeat'(first|refine zst ?_|(refine zhm fun hb=>?_;try exact zab)|refine zdr ?_|(apply zch;exact zcg)|refine QaP.mk fun w0 Z O=>?_|exact zhk|refine zg3 ?_ ?_|refine zln fun _=>?_|refine zop ?_|fail)
      refine Qa (fun(k:Nat)=>⟨179,[(2,.ptr 2 0),(3,.ptr 3 0),(94,zI (a.queue.length:Nat)),(95,zI k)],[(2,.box 34 (JI a)),(3,.box 34 (JI b))]⟩) (fun k=>k<=a.queue.length/\∀j,j<k->nth a.queue j=nth b.queue j) (fun k=>a.queue.length-k) 0 (by exact⟨Xae _,fun j hj=>absurd hj (Xaq _)⟩) ?_ ?_
      · refine⟨rfl,?_,?_,rfl⟩
        repeat'(first|apply And.intro|exact ze0|refine ze1 ?_|refine zei ?_ ?_|exact rfl|trivial)
        all_goals exact zp (by first|rfl|exact Qj _)
      clear f m c
      rintro k ⟨m,f⟩
      by_cases c:k<a.queue.length
      · repeat'(first|refine zst ?_|(refine zhm fun hb=>?_;try exact zab)|(apply QY 12;kernel_rfl;exact rfl)|refine zdr ?_|(apply zch;exact zcg)|refine QaP.mk fun w0 Z O=>?_|exact zhk|refine zg3 ?_ ?_|refine zln fun _=>?_|refine zop ?_|fail)
        all_goals first
          | (refine zr [] ?_ ?_
             repeat'(first|apply And.intro|exact ze0|refine ze1 ?_|refine zei ?_ ?_|exact rfl|trivial)
             all_goals exact zp (Qen fun e=>by subst e;first|exact absurd rfl (by assumption)|exact absurd rfl (Qd1.1 (by assumption))|exact absurd rfl (Qkc.1 (by assumption))|exact absurd rfl (QmZ.1 (by assumption))|exact pB_f.1 (by assumption) rfl|omega).symm)
          | (refine⟨k+1,⟨by omega,fun j hj=>?_⟩,by omega,?_⟩
             · by_cases e:j=k
               · rw[e];exact Qqr.1 (by assumption)
               · exact f j (by omega)
             refine⟨rfl,?_,?_,rfl⟩
             repeat'(first|apply And.intro|exact ze0|refine ze1 ?_|refine zei ?_ ?_|exact rfl|trivial)
             all_goals exact zp rfl)
      have p:a.queue=b.queue:=Xa eQ fun j hj=>f j (by omega)
      repeat'(first|refine zst ?_|(refine zhm fun hb=>?_;try exact zab)|refine zdr ?_|(apply zch;exact zcg)|refine QaP.mk fun w0 Z O=>?_|exact zhk|refine zg3 ?_ ?_|refine zln fun _=>?_|refine zop ?_|fail)
      refine Qa (fun(k:Nat)=>⟨179,[(2,.ptr 2 0),(3,.ptr 3 0),(112,zI (a.runs.length:Nat)),(113,zI k)],[(2,.box 34 (JI a)),(3,.box 34 (JI b))]⟩) (fun k=>k<=a.runs.length/\∀j,j<k->nth a.runs j=nth b.runs j) (fun k=>a.runs.length-k) 0 (by exact⟨Xae _,fun j hj=>absurd hj (Xaq _)⟩) ?_ ?_
      · refine⟨rfl,?_,?_,rfl⟩
        repeat'(first|apply And.intro|exact ze0|refine ze1 ?_|refine zei ?_ ?_|exact rfl|trivial)
        all_goals exact zp (by first|rfl|exact Qe _)
      clear f m c
      rintro k ⟨m,f⟩
      by_cases c:k<a.runs.length
      · have w:=Qnv (l:=(nth a.runs k).nodes) (l':=(nth b.runs k).nodes) (by have:=ha.rno k c;omega)
        repeat'(first|refine zst ?_|(refine zhm fun hb=>?_;try exact zab)|(apply QY 18;kernel_rfl;exact rfl)|refine zdr ?_|(apply zch;exact zcg)|refine QaP.mk fun w0 Z O=>?_|exact zhk|refine zg3 ?_ ?_|refine zln fun _=>?_|refine zop ?_|refine kc (w) rfl rfl ?_|refine kq (w) rfl rfl ?_|fail)
        all_goals first
          | (refine zr [] ?_ ?_
             repeat'(first|apply And.intro|exact ze0|refine ze1 ?_|refine zei ?_ ?_|exact rfl|trivial)
             all_goals exact zp (Qen fun e=>by subst e;first|exact absurd rfl (by assumption)|exact absurd rfl (Qd1.1 (by assumption))|exact absurd rfl (Qkc.1 (by assumption))|exact absurd rfl (QmZ.1 (by assumption))|exact pB_f.1 (by assumption) rfl|omega).symm)
          | (refine⟨k+1,⟨by omega,fun j hj=>?_⟩,by omega,?_⟩
             · by_cases e:j=k
               · rw[e];exact QuM.2 ⟨Qqr.1 (by assumption),by assumption,pB_t.1 (by assumption)⟩
               · exact f j (by omega)
             refine⟨rfl,?_,?_,rfl⟩
             repeat'(first|apply And.intro|exact ze0|refine ze1 ?_|refine zei ?_ ?_|exact rfl|trivial)
             all_goals exact zp rfl)
      have q:a.runs=b.runs:=Xa eR fun j hj=>f j (by omega)
      repeat'(first|refine zst ?_|(refine zhm fun hb=>?_;try exact zab)|refine zdr ?_|(apply zch;exact zcg)|refine QaP.mk fun w0 Z O=>?_|exact zhk|refine zg3 ?_ ?_|refine zln fun _=>?_|refine zop ?_|fail)
      refine Qa (fun(k:Nat)=>⟨179,[(2,.ptr 2 0),(3,.ptr 3 0),(163,zI (a.ends.length:Nat)),(164,zI k)],[(2,.box 34 (JI a)),(3,.box 34 (JI b))]⟩) (fun k=>k<=a.ends.length/\∀j,j<k->nth a.ends j=nth b.ends j) (fun k=>a.ends.length-k) 0 (by exact⟨Xae _,fun j hj=>absurd hj (Xaq _)⟩) ?_ ?_
      · refine⟨rfl,?_,?_,rfl⟩
        repeat'(first|apply And.intro|exact ze0|refine ze1 ?_|refine zei ?_ ?_|exact rfl|trivial)
        all_goals exact zp (by first|rfl|exact QJ _)
      clear f m c
      rintro k ⟨m,f⟩
      by_cases c:k<a.ends.length
      · repeat'(first|refine zst ?_|(refine zhm fun hb=>?_;try exact zab)|(apply QY 24;kernel_rfl;exact rfl)|refine zdr ?_|(apply zch;exact zcg)|refine QaP.mk fun w0 Z O=>?_|exact zhk|refine zg3 ?_ ?_|refine zln fun _=>?_|refine zop ?_|fail)
        all_goals first
          | (refine zr [] ?_ ?_
             repeat'(first|apply And.intro|exact ze0|refine ze1 ?_|refine zei ?_ ?_|exact rfl|trivial)
             all_goals exact zp (Qen fun e=>by subst e;first|exact absurd rfl (by assumption)|exact absurd rfl (Qd1.1 (by assumption))|exact absurd rfl (Qkc.1 (by assumption))|exact absurd rfl (QmZ.1 (by assumption))|exact pB_f.1 (by assumption) rfl|omega).symm)
          | (refine⟨k+1,⟨by omega,fun j hj=>?_⟩,by omega,?_⟩
             · by_cases e:j=k
               · rw[e];exact Qva.1 (by assumption)
               · exact f j (by omega)
             refine⟨rfl,?_,?_,rfl⟩
             repeat'(first|apply And.intro|exact ze0|refine ze1 ?_|refine zei ?_ ?_|exact rfl|trivial)
             all_goals exact zp rfl)
      have o:a.ends=b.ends:=Xa z fun j hj=>f j (by omega)
      rw[QoE i n (Qgn.2 ⟨x,r,eL,y,eN,p,q,o⟩)]
      repeat'(first|refine zst ?_|(refine zhm fun hb=>?_;try exact zab)|refine zdr ?_|(apply zch;exact zcg)|refine QaP.mk fun w0 Z O=>?_|exact zhk|refine zg3 ?_ ?_|refine zln fun _=>?_|refine zop ?_|fail)
      exact zr [] zae zae
end
end Go.Proofs.YtkdniahincpmaaaGreat
