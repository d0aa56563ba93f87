/-
  Equal lists, equal states, the program's.
-/
import Derived.Test.YtihgfennoalocaaGreatKB7
import Derived.Test.YtihgfennoalocaaGreatKB21
import Derived.Test.YtihgfennoalocaaGreatKGlA
import Derived.Test.YtihgfennoalocaaGreatKB36
set_option maxRecDepth 100000
set_option maxHeartbeats 16000000
namespace Go.Proofs.YtihgfennoalocaaGreat
open Go Go.RowKit Tryz
section
attribute [local irreducible] AWp QJ OpOk ACalls ChA QsOk MCalls EnC PY

theorem Zo{α:Type}[Inhabited α]{l l':List α}(h:l.length=l'.length)(hp:∀i,i<l.length->nth l i=nth l' i):l=l':=by
 refine XcK h fun i h1 h2=>?_
 rw[<-Ja h1,<-Ja h2]
 exact hp i h1
theorem QoE{j k:Job}:(j.id==k.id&&(j.prio==k.prio&&(j.nodes==k.nodes&&((j.need.a==k.need.a&&(j.need.b==k.need.b&&(j.need.c==k.need.c&&true)))&&((j.lic.a==k.lic.a&&(j.lic.b==k.lic.b&&(j.lic.c==k.lic.c&&true)))&&(j.wall==k.wall&&(j.level==k.level&&true)))))))=true↔j=k:=by
 cases j with|mk a b c d e f g=>cases k with|mk a' b' c' d' e' f' g'=>cases d;cases e;cases d';cases e';simp[and_assoc]
theorem QiP{j k:Job}:(j.id==k.id&&(j.prio==k.prio&&(j.nodes==k.nodes&&((j.need.a==k.need.a&&(j.need.b==k.need.b&&(j.need.c==k.need.c&&true)))&&((j.lic.a==k.lic.a&&(j.lic.b==k.lic.b&&(j.lic.c==k.lic.c&&true)))&&(j.wall==k.wall&&(j.level==k.level&&true)))))))=false↔j≠k:=by
 rw[Ne,<-QoE,XbA]
theorem Quk{j k:X6}:(j.leaf==k.leaf&&((j.cap.a==k.cap.a&&(j.cap.b==k.cap.b&&(j.cap.c==k.cap.c&&true)))&&true))=true↔j=k:=by
 cases j with|mk a d=>cases k with|mk a' d'=>cases d;cases d';simp
theorem Qvu{j k:X6}:(j.leaf==k.leaf&&((j.cap.a==k.cap.a&&(j.cap.b==k.cap.b&&(j.cap.c==k.cap.c&&true)))&&true))=false↔j≠k:=by
 rw[Ne,<-Quk,XbA]
theorem Qs6{j k:Qb5}:(j.id==k.id&&(j.at'==k.at'&&(j.why==k.why&&true)))=true↔j=k:=by
 cases j;cases k;simp
theorem Qlg{j k:Qb5}:(j.id==k.id&&(j.at'==k.at'&&(j.why==k.why&&true)))=false↔j≠k:=by
 rw[Ne,<-Qs6,XbA]
theorem QoM{l l':List Int}(h:l.length<=1000000000):zAc 261 [zL (intE l),zL (intE l')] [.d (.b (pB (l=l')))] []:=by
  refine zAC func261 fun w0 Z=>?_
  have hl:=Qb l
  have hl':=Qb l'
  by_cases hlen:l.length=l'.length
  · repeat'(first|(refine zhm fun hb=>?_;try exact zab)|refine Qe ?_|(apply zch;exact zcg)|exact zhk|refine zg3 ?_ ?_|intro _|fail)
    refine Qa (fun(i:Nat)=>⟨26,[(0,zL (intE l)),(1,zL (intE l')),(12,zI (l.length:Nat)),(13,zI i)],[]⟩) (fun i=>i<=l.length/\∀j,j<i->nth l j=nth l' j) (fun i=>l.length-i) 0 (by exact⟨Xab _,fun j hj=>absurd hj (Xas _)⟩) ?_ ?_
    · exact zll
    · rintro i ⟨hi,hp⟩
      by_cases hi':i<l.length
      · repeat'(first|(refine zhm fun hb=>?_;try exact zab)|refine Qe ?_|(apply zch;exact zcg)|exact zhk|refine zg3 ?_ ?_|intro _|fail)
        all_goals first
          | (have hne:nth l i≠nth l' i:=(by assumption)
             rw[pB_f.2 (fun e:l=l'=>hne (by rw[e]))]
             refine zr [] ?_ ?_
             repeat'(first|exact ze3|refine ze2 ?_ ?_|refine ze4 ?_|exact ze5|fail)
             all_goals exact zp rfl)
          | (have heq:nth l i=nth l' i:=(by assumption)
             refine⟨i+1,⟨by omega,fun j hj=>?_⟩,by omega,?_⟩
             · by_cases e:j=i
               · rw[e];exact heq
               · exact hp j (by omega)
             refine⟨rfl,?_,?_,rfl⟩
             repeat'(first|exact ze3|refine ze2 ?_ ?_|refine ze4 ?_|exact ze5|fail)
             all_goals exact zp rfl)
      · rw[pB_t.2 (Zo hlen fun j hj=>hp j (by omega))]
        repeat'(first|(refine zhm fun hb=>?_;try exact zab)|refine Qe ?_|(apply zch;exact zcg)|exact zhk|refine zg3 ?_ ?_|intro _|fail)
        exact zrr
  · rw[pB_f.2 (fun e:l=l'=>hlen (by rw[e]))]
    repeat'(first|(refine zhm fun hb=>?_;try exact zab)|refine Qe ?_|(apply zch;exact zcg)|exact zhk|refine zg3 ?_ ?_|intro _|fail)
    exact zrr
theorem Ql2{l l':List Int}(h:l.length<=1000000000):zAc 125 [zL (intE l),zL (intE l')] [.d (.b (pB (l=l')))] []:=by
  refine zAC func125 fun w0 Z=>?_
  have hl:=Qb l
  have hl':=Qb l'
  by_cases hlen:l.length=l'.length
  · repeat'(first|(refine zhm fun hb=>?_;try exact zab)|refine Qe ?_|(apply zch;exact zcg)|exact zhk|refine zg3 ?_ ?_|intro _|fail)
    refine Qa (fun(i:Nat)=>⟨26,[(0,zL (intE l)),(1,zL (intE l')),(12,zI (l.length:Nat)),(13,zI i)],[]⟩) (fun i=>i<=l.length/\∀j,j<i->nth l j=nth l' j) (fun i=>l.length-i) 0 (by exact⟨Xab _,fun j hj=>absurd hj (Xas _)⟩) ?_ ?_
    · exact zll
    · rintro i ⟨hi,hp⟩
      by_cases hi':i<l.length
      · repeat'(first|(refine zhm fun hb=>?_;try exact zab)|refine Qe ?_|(apply zch;exact zcg)|exact zhk|refine zg3 ?_ ?_|intro _|fail)
        all_goals first
          | (have hne:nth l i≠nth l' i:=(by assumption)
             rw[pB_f.2 (fun e:l=l'=>hne (by rw[e]))]
             refine zr [] ?_ ?_
             repeat'(first|exact ze3|refine ze2 ?_ ?_|refine ze4 ?_|exact ze5|fail)
             all_goals exact zp rfl)
          | (have heq:nth l i=nth l' i:=(by assumption)
             refine⟨i+1,⟨by omega,fun j hj=>?_⟩,by omega,?_⟩
             · by_cases e:j=i
               · rw[e];exact heq
               · exact hp j (by omega)
             refine⟨rfl,?_,?_,rfl⟩
             repeat'(first|exact ze3|refine ze2 ?_ ?_|refine ze4 ?_|exact ze5|fail)
             all_goals exact zp rfl)
      · rw[pB_t.2 (Zo hlen fun j hj=>hp j (by omega))]
        repeat'(first|(refine zhm fun hb=>?_;try exact zab)|refine Qe ?_|(apply zch;exact zcg)|exact zhk|refine zg3 ?_ ?_|intro _|fail)
        exact zrr
  · rw[pB_f.2 (fun e:l=l'=>hlen (by rw[e]))]
    repeat'(first|(refine zhm fun hb=>?_;try exact zab)|refine Qe ?_|(apply zch;exact zcg)|exact zhk|refine zg3 ?_ ?_|intro _|fail)
    exact zrr
theorem Qml{l l':List Job}(h:l.length<=1000000000):zAc 208 [zL (jobE l),zL (jobE l')] [.d (.b (pB (l=l')))] []:=by
  refine zAC func208 fun w0 Z=>?_
  have hl:=Qk l
  have hl':=Qk l'
  by_cases hlen:l.length=l'.length
  · repeat'(first|(refine zhm fun hb=>?_;try exact zab)|refine Qe ?_|(apply zch;exact zcg)|exact zhk|refine zg3 ?_ ?_|intro _|fail)
    refine Qa (fun(i:Nat)=>⟨26,[(0,zL (jobE l)),(1,zL (jobE l')),(12,zI (l.length:Nat)),(13,zI i)],[]⟩) (fun i=>i<=l.length/\∀j,j<i->nth l j=nth l' j) (fun i=>l.length-i) 0 (by exact⟨Xab _,fun j hj=>absurd hj (Xas _)⟩) ?_ ?_
    · exact zll
    · rintro i ⟨hi,hp⟩
      by_cases hi':i<l.length
      · repeat'(first|(refine zhm fun hb=>?_;try exact zab)|refine Qe ?_|(apply zch;exact zcg)|exact zhk|refine zg3 ?_ ?_|intro _|fail)
        all_goals first
          | (have hne:nth l i≠nth l' i:=(QiP.1 (by assumption))
             rw[pB_f.2 (fun e:l=l'=>hne (by rw[e]))]
             refine zr [] ?_ ?_
             repeat'(first|exact ze3|refine ze2 ?_ ?_|refine ze4 ?_|exact ze5|fail)
             all_goals exact zp rfl)
          | (have heq:nth l i=nth l' i:=(QoE.1 (by assumption))
             refine⟨i+1,⟨by omega,fun j hj=>?_⟩,by omega,?_⟩
             · by_cases e:j=i
               · rw[e];exact heq
               · exact hp j (by omega)
             refine⟨rfl,?_,?_,rfl⟩
             repeat'(first|exact ze3|refine ze2 ?_ ?_|refine ze4 ?_|exact ze5|fail)
             all_goals exact zp rfl)
      · rw[pB_t.2 (Zo hlen fun j hj=>hp j (by omega))]
        repeat'(first|(refine zhm fun hb=>?_;try exact zab)|refine Qe ?_|(apply zch;exact zcg)|exact zhk|refine zg3 ?_ ?_|intro _|fail)
        exact zrr
  · rw[pB_f.2 (fun e:l=l'=>hlen (by rw[e]))]
    repeat'(first|(refine zhm fun hb=>?_;try exact zab)|refine Qe ?_|(apply zch;exact zcg)|exact zhk|refine zg3 ?_ ?_|intro _|fail)
    exact zrr
theorem Qsk{l l':List X6}(h:l.length<=1000000000):zAc 262 [zL (Qz l),zL (Qz l')] [.d (.b (pB (l=l')))] []:=by
  refine zAC func262 fun w0 Z=>?_
  have hl:=Qr l
  have hl':=Qr l'
  by_cases hlen:l.length=l'.length
  · repeat'(first|(refine zhm fun hb=>?_;try exact zab)|refine Qe ?_|(apply zch;exact zcg)|exact zhk|refine zg3 ?_ ?_|intro _|fail)
    refine Qa (fun(i:Nat)=>⟨26,[(0,zL (Qz l)),(1,zL (Qz l')),(12,zI (l.length:Nat)),(13,zI i)],[]⟩) (fun i=>i<=l.length/\∀j,j<i->nth l j=nth l' j) (fun i=>l.length-i) 0 (by exact⟨Xab _,fun j hj=>absurd hj (Xas _)⟩) ?_ ?_
    · exact zll
    · rintro i ⟨hi,hp⟩
      by_cases hi':i<l.length
      · repeat'(first|(refine zhm fun hb=>?_;try exact zab)|refine Qe ?_|(apply zch;exact zcg)|exact zhk|refine zg3 ?_ ?_|intro _|fail)
        all_goals first
          | (have hne:nth l i≠nth l' i:=(Qvu.1 (by assumption))
             rw[pB_f.2 (fun e:l=l'=>hne (by rw[e]))]
             refine zr [] ?_ ?_
             repeat'(first|exact ze3|refine ze2 ?_ ?_|refine ze4 ?_|exact ze5|fail)
             all_goals exact zp rfl)
          | (have heq:nth l i=nth l' i:=(Quk.1 (by assumption))
             refine⟨i+1,⟨by omega,fun j hj=>?_⟩,by omega,?_⟩
             · by_cases e:j=i
               · rw[e];exact heq
               · exact hp j (by omega)
             refine⟨rfl,?_,?_,rfl⟩
             repeat'(first|exact ze3|refine ze2 ?_ ?_|refine ze4 ?_|exact ze5|fail)
             all_goals exact zp rfl)
      · rw[pB_t.2 (Zo hlen fun j hj=>hp j (by omega))]
        repeat'(first|(refine zhm fun hb=>?_;try exact zab)|refine Qe ?_|(apply zch;exact zcg)|exact zhk|refine zg3 ?_ ?_|intro _|fail)
        exact zrr
  · rw[pB_f.2 (fun e:l=l'=>hlen (by rw[e]))]
    repeat'(first|(refine zhm fun hb=>?_;try exact zab)|refine Qe ?_|(apply zch;exact zcg)|exact zhk|refine zg3 ?_ ?_|intro _|fail)
    exact zrr
theorem QoU{l l':List Qb5}(h:l.length<=1000000000):zAc 211 [zL (endE l),zL (endE l')] [.d (.b (pB (l=l')))] []:=by
  refine zAC func211 fun w0 Z=>?_
  have hl:=QC l
  have hl':=QC l'
  by_cases hlen:l.length=l'.length
  · repeat'(first|(refine zhm fun hb=>?_;try exact zab)|refine Qe ?_|(apply zch;exact zcg)|exact zhk|refine zg3 ?_ ?_|intro _|fail)
    refine Qa (fun(i:Nat)=>⟨26,[(0,zL (endE l)),(1,zL (endE l')),(12,zI (l.length:Nat)),(13,zI i)],[]⟩) (fun i=>i<=l.length/\∀j,j<i->nth l j=nth l' j) (fun i=>l.length-i) 0 (by exact⟨Xab _,fun j hj=>absurd hj (Xas _)⟩) ?_ ?_
    · exact zll
    · rintro i ⟨hi,hp⟩
      by_cases hi':i<l.length
      · repeat'(first|(refine zhm fun hb=>?_;try exact zab)|refine Qe ?_|(apply zch;exact zcg)|exact zhk|refine zg3 ?_ ?_|intro _|fail)
        all_goals first
          | (have hne:nth l i≠nth l' i:=(Qlg.1 (by assumption))
             rw[pB_f.2 (fun e:l=l'=>hne (by rw[e]))]
             refine zr [] ?_ ?_
             repeat'(first|exact ze3|refine ze2 ?_ ?_|refine ze4 ?_|exact ze5|fail)
             all_goals exact zp rfl)
          | (have heq:nth l i=nth l' i:=(Qs6.1 (by assumption))
             refine⟨i+1,⟨by omega,fun j hj=>?_⟩,by omega,?_⟩
             · by_cases e:j=i
               · rw[e];exact heq
               · exact hp j (by omega)
             refine⟨rfl,?_,?_,rfl⟩
             repeat'(first|exact ze3|refine ze2 ?_ ?_|refine ze4 ?_|exact ze5|fail)
             all_goals exact zp rfl)
      · rw[pB_t.2 (Zo hlen fun j hj=>hp j (by omega))]
        repeat'(first|(refine zhm fun hb=>?_;try exact zab)|refine Qe ?_|(apply zch;exact zcg)|exact zhk|refine zg3 ?_ ?_|intro _|fail)
        exact zrr
  · rw[pB_f.2 (fun e:l=l'=>hlen (by rw[e]))]
    repeat'(first|(refine zhm fun hb=>?_;try exact zab)|refine Qe ?_|(apply zch;exact zcg)|exact zhk|refine zg3 ?_ ?_|intro _|fail)
    exact zrr

theorem QtF{t u:QW}:t=u↔t.parents=u.parents/\t.nodes=u.nodes:=by cases t;cases u;simp
theorem QrX{x y:Run}:x=y↔x.job=y.job/\x.at'=y.at'/\x.nodes=y.nodes:=by cases x;cases y;simp
theorem Qfb{t u:QW}(h1:t.parents.length<=1000000000)(h2:t.nodes.length<=1000000000):zAc 206 [Yy t,Yy u] [.d (.b (pB (t=u)))] []:=by
 refine zAC func206 fun w0 Z=>?_
 have c1:=QoM (l:=t.parents) (l':=u.parents) h1
 have c2:=Qsk (l:=t.nodes) (l':=u.nodes) h2
 by_cases e:t.parents=u.parents
 ·rw[pB_t.2 e]at c1
  repeat'(first|(refine zhm fun hb=>?_;try exact zab)|refine zUto ?_|refine zg2 ?_ ?_|intro _|fail)
  refine zr [] ?_ ?_
  repeat'(first|exact ze3|refine ze2 ?_ ?_|refine ze4 ?_|exact ze5|fail)
  all_goals exact zp (by rw[Xan,pB_t,pB_t,QtF];exact⟨fun h=>⟨e,h⟩,fun h=>h.2⟩)
 ·rw[pB_f.2 e]at c1
  rw[pB_f.2 (fun h:t=u=>e (by rw[h]))]
  repeat'(first|(refine zhm fun hb=>?_;try exact zab)|refine zUto ?_|refine zg2 ?_ ?_|intro _|fail)
  exact zrr
theorem Qo7{x y:Run}(h:x.nodes.length<=1000000000):zAc 210 [runA x,runA y] [.d (.b (pB (x=y)))] []:=by
 refine zAC func210 fun w0 Z=>?_
 have c1:=QoM (l:=x.nodes) (l':=y.nodes) h
 repeat'(first|(refine zhm fun hb=>?_;try exact zab)|refine zUto ?_|refine zg2 ?_ ?_|intro _|fail)
 all_goals
  refine zr [] ?_ ?_
  repeat'(first|exact ze3|refine ze2 ?_ ?_|refine ze4 ?_|exact ze5|fail)
 all_goals first
  | exact zp (by rw[pB_f.2 (fun e:x=y=>(QiP.1 (by assumption)) (by rw[e]))])
  | exact zp (by rw[pB_f.2 (fun e:x=y=>absurd (show x.at'=y.at' by rw[e]) (by assumption))])
  | exact zp (by rw[Xan,pB_t,pB_t,QrX];exact⟨fun h=>⟨QoE.1 (by assumption),by assumption,h⟩,fun h=>h.2.2⟩)
theorem Qgt{s u:Qd}:s=u↔s.topo=u.topo/\s.up=u.up/\s.lic=u.lic/\s.depth=u.depth/\s.now=u.now/\s.queue=u.queue/\s.runs=u.runs/\s.ends=u.ends:=by cases s;cases u;simp
theorem QgV{l l':List Run}(h:l.length<=1000000000)(hr:∀j,j<l.length->(nth l j).nodes.length<=1000000000):zAc 209 [zL (runE l),zL (runE l'),.clo 210 []] [.d (.b (pB (l=l')))] []:=by
 refine zAC func209 fun w0 Z=>?_
 have hl:=Qf l
 have hl':=Qf l'
 by_cases hlen:l.length=l'.length
 ·repeat'(first|(refine zhm fun hb=>?_;try exact zab)|refine zUtp ?_|refine zg2 ?_ ?_|intro _|fail)
  refine Qa (fun(i:Nat)=>⟨32,[(1,zL (runE l')),(2,.clo 210 []),(15,zL (runE l)),(16,zI (l.length:Nat)),(17,zI i)],[]⟩) (fun i=>i<=l.length/\∀j,j<i->nth l j=nth l' j) (fun i=>l.length-i) 0 (by exact⟨Xab _,fun j hj=>absurd hj (Xas _)⟩) ?_ ?_
  ·exact zll
  ·rintro i ⟨hi,hp⟩
   by_cases hi':i<l.length
   ·have c1:=Qo7 (x:=nth l i) (y:=nth l' i) (hr i hi')
    by_cases he:nth l i=nth l' i
    ·rw[pB_t.2 he]at c1
     repeat'(first|(refine zhm fun hb=>?_;try exact zab)|refine zUtp ?_|refine zg2 ?_ ?_|refine kv (c1) rfl rfl rfl rfl rfl ?_|intro _|fail)
     refine⟨i+1,⟨by omega,fun j hj=>?_⟩,by omega,?_⟩
     ·by_cases e:j=i
      ·rw[e];exact he
      ·exact hp j (by omega)
     exact zll
    ·rw[pB_f.2 he]at c1
     rw[pB_f.2 (fun e:l=l'=>he (by rw[e]))]
     repeat'(first|(refine zhm fun hb=>?_;try exact zab)|refine zUtp ?_|refine zg2 ?_ ?_|refine kv (c1) rfl rfl rfl rfl rfl ?_|intro _|fail)
     exact zrr
   ·rw[pB_t.2 (Zo hlen fun j hj=>hp j (by omega))]
    repeat'(first|(refine zhm fun hb=>?_;try exact zab)|refine zUtp ?_|refine zg2 ?_ ?_|intro _|fail)
    exact zrr
 ·rw[pB_f.2 (fun e:l=l'=>hlen (by rw[e]))]
  repeat'(first|(refine zhm fun hb=>?_;try exact zab)|refine zUtp ?_|refine zg2 ?_ ?_|intro _|fail)
  exact zrr

theorem QnB{l l':List Bool}(h:l.length<=1000000000):zAc 207 [zL (Qq l),zL (Qq l')] [.d (.b (pB (l=l')))] []:=by
  refine zAC func207 fun w0 Z=>?_
  have hl:=Qo l
  have hl':=Qo l'
  by_cases hlen:l.length=l'.length
  · repeat'(first|(refine zhm fun hb=>?_;try exact zab)|refine Qe ?_|(apply zch;exact zcg)|exact zhk|refine zg3 ?_ ?_|intro _|fail)
    refine Qa (fun(i:Nat)=>⟨26,[(0,zL (Qq l)),(1,zL (Qq l')),(12,zI (l.length:Nat)),(13,zI i)],[]⟩) (fun i=>i<=l.length/\∀j,j<i->nth l j=nth l' j) (fun i=>l.length-i) 0 (by exact⟨Xab _,fun j hj=>absurd hj (Xas _)⟩) ?_ ?_
    · exact zll
    · rintro i ⟨hi,hp⟩
      by_cases hi':i<l.length
      · repeat'(first|(refine zhm fun hb=>?_;try exact zab)|refine Qe ?_|(apply zch;exact zcg)|exact zhk|refine zg3 ?_ ?_|intro _|fail)
        all_goals first
          | (have hne:nth l i≠nth l' i:=(by assumption)
             rw[pB_f.2 (fun e:l=l'=>hne (by rw[e]))]
             refine zr [] ?_ ?_
             repeat'(first|exact ze3|refine ze2 ?_ ?_|refine ze4 ?_|exact ze5|fail)
             all_goals exact zp rfl)
          | (have heq:nth l i=nth l' i:=(by assumption)
             refine⟨i+1,⟨by omega,fun j hj=>?_⟩,by omega,?_⟩
             · by_cases e:j=i
               · rw[e];exact heq
               · exact hp j (by omega)
             refine⟨rfl,?_,?_,rfl⟩
             repeat'(first|exact ze3|refine ze2 ?_ ?_|refine ze4 ?_|exact ze5|fail)
             all_goals exact zp rfl)
      · rw[pB_t.2 (Zo hlen fun j hj=>hp j (by omega))]
        repeat'(first|(refine zhm fun hb=>?_;try exact zab)|refine Qe ?_|(apply zch;exact zcg)|exact zhk|refine zg3 ?_ ?_|intro _|fail)
        exact zrr
  · rw[pB_f.2 (fun e:l=l'=>hlen (by rw[e]))]
    repeat'(first|(refine zhm fun hb=>?_;try exact zab)|refine Qe ?_|(apply zch;exact zcg)|exact zhk|refine zg3 ?_ ?_|intro _|fail)
    exact zrr
noncomputable def X2 (a b:Qd):Bool:=Qp a&&(Qp b&&pB (a=b))
theorem Zd{s u:Qd}(h:Ql 1000000000 s):zAc 132 [Qx s,Qx u] [.d (.b (pB (s=u)))] []:=by
 refine zAC func132 fun w0 Z=>?_
 by_cases e:s=u
 ·subst e
  rw[pB_t.2 rfl]
  have c1:=Qfb (t:=s.topo) (u:=s.topo) h.par h.nod
  have c2:=QnB (l:=s.up) (l':=s.up) h.up
  have c3:=Qml (l:=s.queue) (l':=s.queue) h.que
  have c4:=QgV (l:=s.runs) (l':=s.runs) h.run h.rno
  have c5:=QoU (l:=s.ends) (l':=s.ends) h.end'
  rw[pB_t.2 rfl]at c1 c2 c3 c4 c5
  repeat'(first|(refine zhm fun hb=>?_;try exact zab)|refine zUto ?_|refine zg2 ?_ ?_|intro _|fail)
  all_goals first|exact absurd rfl (Qc0.1 (by assumption))|exact absurd rfl (by assumption)|skip
  refine zr [] ?_ ?_
  repeat'(first|exact ze3|refine ze2 ?_ ?_|refine ze4 ?_|exact ze5|fail)
  all_goals exact zp (by first|rfl|simp)
 ·rw[pB_f.2 e]
  have c1:=Qfb (t:=s.topo) (u:=u.topo) h.par h.nod
  have c2:=QnB (l:=s.up) (l':=u.up) h.up
  have c3:=Qml (l:=s.queue) (l':=u.queue) h.que
  have c4:=QgV (l:=s.runs) (l':=u.runs) h.run h.rno
  have c5:=QoU (l:=s.ends) (l':=u.ends) h.end'
  repeat'(first|(refine zhm fun hb=>?_;try exact zab)|refine zUto ?_|refine zg2 ?_ ?_|intro _|fail)
  all_goals
   refine zr [] ?_ ?_
   repeat'(first|exact ze3|refine ze2 ?_ ?_|refine ze4 ?_|exact ze5|fail)
  all_goals first|exact zp rfl|exact zp (pB_f.2 (fun hE=>e (Qgt.2 ⟨pB_t.1 (by assumption),pB_t.1 (by assumption),Qen.1 (by assumption),by assumption,by assumption,pB_t.1 (by assumption),pB_t.1 (by assumption),hE⟩))).symm|exact zp (pB_f.2 (fun hE=>e (Qgt.2 ⟨pB_t.1 (by assumption),pB_t.1 (by assumption),Qen.1 (by assumption),by assumption,by assumption,pB_t.1 (by assumption),pB_t.1 (by assumption),hE⟩)))
theorem QdW{a b:Qd}(ha:Ql 100000000 a)(hb':Ql 100000000 b):zAc 61 [Qx a,Qx b] [.d (.b (X2 a b))] []:=by
 refine zAC func61 fun w0 Z=>?_
 have c1:=Yo ha
 have c2:=Yo hb'
 have c3:=Zd (s:=a) (u:=b) (ha.mono (by omega))
 unfold X2
 cases h1:Qp a with
 | false=>
  rw[h1]at c1
  repeat'(first|(refine zhm fun hb=>?_;try exact zab)|refine zUto ?_|refine zg2 ?_ ?_|intro _|fail)
  exact zrr
 | true=>
  rw[h1]at c1
  cases h2:Qp b with
  | false=>
   rw[h2]at c2
   repeat'(first|(refine zhm fun hb=>?_;try exact zab)|refine zUto ?_|refine zg2 ?_ ?_|intro _|fail)
   exact zrr
  | true=>
   rw[h2]at c2
   repeat'(first|(refine zhm fun hb=>?_;try exact zab)|refine zUto ?_|refine zg2 ?_ ?_|intro _|fail)
   exact zrr
theorem QgG{s:Qd}(h:Qp s=true):QgC s:=by
 have hr:=(pB_t.1 h).room
 cases hq:JG s with
 | none=>rw[hq]at hr;cases hr
 | some r=>exact(W1 hq).2.2.2.1
theorem QcW{a b:Qd}(h:a=b->False):X2 a b=false:=by
 unfold X2
 rw[pB_f.2 h,Xci,Xci]
theorem QsS{a b:Qd}(h1:Qp a=true)(h2:Qp b=true)(h:a=b):X2 a b=true:=by
 unfold X2
 rw[pB_t.2 h,h1,h2];rfl
theorem QcF{a b:Qd}(ha:Ql 100000000 a)(hb':Ql 100000000 b):zAc 55 [Qx a,Qx b] [.d (.b (X2 a b))] []:=by
  refine Qmu tt func55 rfl rfl rfl (fun w0 Z=>?_)
  have c1:=YL ha
  have c2:=YL hb'
  cases h1:Qp a with
  | false=>
    rw[h1]at c1
    rw[show X2 a b=false from by unfold X2;rw[h1];rfl]
    repeat'(first|refine zst ?_|(refine zhm fun hb=>?_;try exact zab)|refine zdr ?_|(apply zch;exact zcg)|refine Qmj.mk fun w0 Z O=>?_|exact zhk|refine zg3 ?_ ?_|refine zln fun _=>?_|refine zop ?_|refine kc (c1) rfl rfl ?_|refine kq (c1) rfl rfl ?_|fail)
    exact zr [] zae zae
  | true=>
    rw[h1]at c1
    cases h2:Qp b with
    | false=>
      rw[h2]at c2
      rw[show X2 a b=false from by unfold X2;rw[h1,h2];rfl]
      repeat'(first|refine zst ?_|(refine zhm fun hb=>?_;try exact zab)|refine zdr ?_|(apply zch;exact zcg)|refine Qmj.mk fun w0 Z O=>?_|exact zhk|refine zg3 ?_ ?_|refine zln fun _=>?_|refine zop ?_|refine kc (c1) rfl rfl ?_|refine kc (c2) rfl rfl ?_|refine kq (c1) rfl rfl ?_|refine kq (c2) rfl rfl ?_|fail)
      exact zr [] zae zae
    | true=>
      rw[h2]at c2
      have ta:=QgG h1
      have tb:=QgG h2
      have c3:=QeL ta.topo
      have c4:=QeL tb.topo
      have l1:=ha.up;have l2:=ha.que;have l3:=ha.run;have l4:=ha.end'
      have l5:=hb'.up;have l6:=hb'.que;have l7:=hb'.run;have l8:=hb'.end'
      repeat'(first|refine zst ?_|(refine zhm fun hb=>?_;try exact zab)|refine zdr ?_|(apply zch;exact zcg)|refine Qmj.mk fun w0 Z O=>?_|exact zhk|refine zg3 ?_ ?_|refine zln fun _=>?_|refine zop ?_|refine kc (c1) rfl rfl ?_|refine kc (c2) rfl rfl ?_|refine kc (c3) rfl rfl ?_|refine kc (c4) rfl rfl ?_|refine kq (c1) rfl rfl ?_|refine kq (c2) rfl rfl ?_|refine kq (c3) rfl rfl ?_|refine kq (c4) rfl rfl ?_|fail)
      all_goals first
        | (refine zr [] ?_ ?_
           repeat'(first|apply And.intro|exact ze0|refine ze1 ?_|refine zei ?_ ?_|exact rfl|trivial)
           all_goals exact zp (QcW fun e=>by subst e;first|exact absurd rfl (by assumption)|exact absurd rfl (Qc0.1 (by assumption))|exact absurd rfl (QiP.1 (by assumption))|exact absurd rfl (Qlg.1 (by assumption))|omega).symm)
        | skip
      have eT:a.topo=b.topo:=Qpm ta.topo tb.topo (by assumption)
      have eL:a.lic=b.lic:=Qen.1 (by assumption)
      have eD:a.depth=b.depth:=by assumption
      have eN:a.now=b.now:=by assumption
      have eU:a.up.length=b.up.length:=by rw[ta.up,tb.up,eT]
      have eQ:a.queue.length=b.queue.length:=by omega
      have eR:a.runs.length=b.runs.length:=by omega
      have eE:a.ends.length=b.ends.length:=by omega
      refine Qa (fun(k:Nat)=>⟨179,[(2,.ptr 2 0),(3,.ptr 3 0),(76,zI (a.up.length:Nat)),(77,zI k)],[(2,.box 49 (JB a)),(3,.box 49 (JB b))]⟩) (fun k=>k<=a.up.length/\∀j,j<k->nth a.up j=nth b.up j) (fun k=>a.up.length-k) 0 (by exact⟨Xab _,fun j hj=>absurd hj (Xas _)⟩) ?_ ?_
      · refine⟨rfl,?_,?_,rfl⟩
        repeat'(first|apply And.intro|exact ze0|refine ze1 ?_|refine zei ?_ ?_|exact rfl|trivial)
        all_goals exact zp (by first|rfl|exact Qo _)
      rintro k ⟨hk,hp⟩
      by_cases hk':k<a.up.length
      · repeat'(first|refine zst ?_|(refine zhm fun hb=>?_;try exact zab)|(apply QB 6;kernel_rfl;exact rfl)|refine zdr ?_|(apply zch;exact zcg)|refine Qmj.mk fun w0 Z O=>?_|exact zhk|refine zg3 ?_ ?_|refine zln fun _=>?_|refine zop ?_|fail)
        all_goals first
          | (refine zr [] ?_ ?_
             repeat'(first|apply And.intro|exact ze0|refine ze1 ?_|refine zei ?_ ?_|exact rfl|trivial)
             all_goals exact zp (QcW fun e=>by subst e;first|exact absurd rfl (by assumption)|exact absurd rfl (Qc0.1 (by assumption))|exact absurd rfl (QiP.1 (by assumption))|exact absurd rfl (Qlg.1 (by assumption))|exact pB_f.1 (by assumption) rfl|omega).symm)
          | (refine⟨k+1,⟨by omega,fun j hj=>?_⟩,by omega,?_⟩
             · by_cases e:j=k
               · rw[e];assumption
               · exact hp j (by omega)
             refine⟨rfl,?_,?_,rfl⟩
             repeat'(first|apply And.intro|exact ze0|refine ze1 ?_|refine zei ?_ ?_|exact rfl|trivial)
             all_goals exact zp rfl)
      have eUp:a.up=b.up:=Zo eU fun j hj=>hp j (by omega)
      repeat'(first|refine zst ?_|(refine zhm fun hb=>?_;try exact zab)|refine zdr ?_|(apply zch;exact zcg)|refine Qmj.mk fun w0 Z O=>?_|exact zhk|refine zg3 ?_ ?_|refine zln fun _=>?_|refine zop ?_|fail)
      refine Qa (fun(k:Nat)=>⟨179,[(2,.ptr 2 0),(3,.ptr 3 0),(94,zI (a.queue.length:Nat)),(95,zI k)],[(2,.box 49 (JB a)),(3,.box 49 (JB b))]⟩) (fun k=>k<=a.queue.length/\∀j,j<k->nth a.queue j=nth b.queue j) (fun k=>a.queue.length-k) 0 (by exact⟨Xab _,fun j hj=>absurd hj (Xas _)⟩) ?_ ?_
      · refine⟨rfl,?_,?_,rfl⟩
        repeat'(first|apply And.intro|exact ze0|refine ze1 ?_|refine zei ?_ ?_|exact rfl|trivial)
        all_goals exact zp (by first|rfl|exact Qk _)
      clear hp hk hk'
      rintro k ⟨hk,hp⟩
      by_cases hk':k<a.queue.length
      · repeat'(first|refine zst ?_|(refine zhm fun hb=>?_;try exact zab)|(apply QB 12;kernel_rfl;exact rfl)|refine zdr ?_|(apply zch;exact zcg)|refine Qmj.mk fun w0 Z O=>?_|exact zhk|refine zg3 ?_ ?_|refine zln fun _=>?_|refine zop ?_|fail)
        all_goals first
          | (refine zr [] ?_ ?_
             repeat'(first|apply And.intro|exact ze0|refine ze1 ?_|refine zei ?_ ?_|exact rfl|trivial)
             all_goals exact zp (QcW fun e=>by subst e;first|exact absurd rfl (by assumption)|exact absurd rfl (Qc0.1 (by assumption))|exact absurd rfl (QiP.1 (by assumption))|exact absurd rfl (Qlg.1 (by assumption))|exact pB_f.1 (by assumption) rfl|omega).symm)
          | (refine⟨k+1,⟨by omega,fun j hj=>?_⟩,by omega,?_⟩
             · by_cases e:j=k
               · rw[e];exact QoE.1 (by assumption)
               · exact hp j (by omega)
             refine⟨rfl,?_,?_,rfl⟩
             repeat'(first|apply And.intro|exact ze0|refine ze1 ?_|refine zei ?_ ?_|exact rfl|trivial)
             all_goals exact zp rfl)
      have eQu:a.queue=b.queue:=Zo eQ fun j hj=>hp j (by omega)
      repeat'(first|refine zst ?_|(refine zhm fun hb=>?_;try exact zab)|refine zdr ?_|(apply zch;exact zcg)|refine Qmj.mk fun w0 Z O=>?_|exact zhk|refine zg3 ?_ ?_|refine zln fun _=>?_|refine zop ?_|fail)
      refine Qa (fun(k:Nat)=>⟨179,[(2,.ptr 2 0),(3,.ptr 3 0),(112,zI (a.runs.length:Nat)),(113,zI k)],[(2,.box 49 (JB a)),(3,.box 49 (JB b))]⟩) (fun k=>k<=a.runs.length/\∀j,j<k->nth a.runs j=nth b.runs j) (fun k=>a.runs.length-k) 0 (by exact⟨Xab _,fun j hj=>absurd hj (Xas _)⟩) ?_ ?_
      · refine⟨rfl,?_,?_,rfl⟩
        repeat'(first|apply And.intro|exact ze0|refine ze1 ?_|refine zei ?_ ?_|exact rfl|trivial)
        all_goals exact zp (by first|rfl|exact Qf _)
      clear hp hk hk'
      rintro k ⟨hk,hp⟩
      by_cases hk':k<a.runs.length
      · have c5:=Ql2 (l:=(nth a.runs k).nodes) (l':=(nth b.runs k).nodes) (by have:=ha.rno k hk';omega)
        repeat'(first|refine zst ?_|(refine zhm fun hb=>?_;try exact zab)|(apply QB 18;kernel_rfl;exact rfl)|refine zdr ?_|(apply zch;exact zcg)|refine Qmj.mk fun w0 Z O=>?_|exact zhk|refine zg3 ?_ ?_|refine zln fun _=>?_|refine zop ?_|refine kc (c5) rfl rfl ?_|refine kq (c5) rfl rfl ?_|fail)
        all_goals first
          | (refine zr [] ?_ ?_
             repeat'(first|apply And.intro|exact ze0|refine ze1 ?_|refine zei ?_ ?_|exact rfl|trivial)
             all_goals exact zp (QcW fun e=>by subst e;first|exact absurd rfl (by assumption)|exact absurd rfl (Qc0.1 (by assumption))|exact absurd rfl (QiP.1 (by assumption))|exact absurd rfl (Qlg.1 (by assumption))|exact pB_f.1 (by assumption) rfl|omega).symm)
          | (refine⟨k+1,⟨by omega,fun j hj=>?_⟩,by omega,?_⟩
             · by_cases e:j=k
               · rw[e];exact QrX.2 ⟨QoE.1 (by assumption),by assumption,pB_t.1 (by assumption)⟩
               · exact hp j (by omega)
             refine⟨rfl,?_,?_,rfl⟩
             repeat'(first|apply And.intro|exact ze0|refine ze1 ?_|refine zei ?_ ?_|exact rfl|trivial)
             all_goals exact zp rfl)
      have eRu:a.runs=b.runs:=Zo eR fun j hj=>hp j (by omega)
      repeat'(first|refine zst ?_|(refine zhm fun hb=>?_;try exact zab)|refine zdr ?_|(apply zch;exact zcg)|refine Qmj.mk fun w0 Z O=>?_|exact zhk|refine zg3 ?_ ?_|refine zln fun _=>?_|refine zop ?_|fail)
      refine Qa (fun(k:Nat)=>⟨179,[(2,.ptr 2 0),(3,.ptr 3 0),(163,zI (a.ends.length:Nat)),(164,zI k)],[(2,.box 49 (JB a)),(3,.box 49 (JB b))]⟩) (fun k=>k<=a.ends.length/\∀j,j<k->nth a.ends j=nth b.ends j) (fun k=>a.ends.length-k) 0 (by exact⟨Xab _,fun j hj=>absurd hj (Xas _)⟩) ?_ ?_
      · refine⟨rfl,?_,?_,rfl⟩
        repeat'(first|apply And.intro|exact ze0|refine ze1 ?_|refine zei ?_ ?_|exact rfl|trivial)
        all_goals exact zp (by first|rfl|exact QC _)
      clear hp hk hk'
      rintro k ⟨hk,hp⟩
      by_cases hk':k<a.ends.length
      · repeat'(first|refine zst ?_|(refine zhm fun hb=>?_;try exact zab)|(apply QB 24;kernel_rfl;exact rfl)|refine zdr ?_|(apply zch;exact zcg)|refine Qmj.mk fun w0 Z O=>?_|exact zhk|refine zg3 ?_ ?_|refine zln fun _=>?_|refine zop ?_|fail)
        all_goals first
          | (refine zr [] ?_ ?_
             repeat'(first|apply And.intro|exact ze0|refine ze1 ?_|refine zei ?_ ?_|exact rfl|trivial)
             all_goals exact zp (QcW fun e=>by subst e;first|exact absurd rfl (by assumption)|exact absurd rfl (Qc0.1 (by assumption))|exact absurd rfl (QiP.1 (by assumption))|exact absurd rfl (Qlg.1 (by assumption))|exact pB_f.1 (by assumption) rfl|omega).symm)
          | (refine⟨k+1,⟨by omega,fun j hj=>?_⟩,by omega,?_⟩
             · by_cases e:j=k
               · rw[e];exact Qs6.1 (by assumption)
               · exact hp j (by omega)
             refine⟨rfl,?_,?_,rfl⟩
             repeat'(first|apply And.intro|exact ze0|refine ze1 ?_|refine zei ?_ ?_|exact rfl|trivial)
             all_goals exact zp rfl)
      have eEn:a.ends=b.ends:=Zo eE fun j hj=>hp j (by omega)
      rw[QsS h1 h2 (Qgt.2 ⟨eT,eUp,eL,eD,eN,eQu,eRu,eEn⟩)]
      repeat'(first|refine zst ?_|(refine zhm fun hb=>?_;try exact zab)|refine zdr ?_|(apply zch;exact zcg)|refine Qmj.mk fun w0 Z O=>?_|exact zhk|refine zg3 ?_ ?_|refine zln fun _=>?_|refine zop ?_|fail)
      exact zr [] zae zae
end
end Go.Proofs.YtihgfennoalocaaGreat
