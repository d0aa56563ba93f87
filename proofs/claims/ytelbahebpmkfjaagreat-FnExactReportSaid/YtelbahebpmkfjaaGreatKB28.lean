/-
  The library's Delete, at jobs.
-/
import Derived.Test.YtelbahebpmkfjaaGreatKB7
import Derived.Test.YtelbahebpmkfjaaGreatKB11
import Derived.Test.YtelbahebpmkfjaaGreatKB19
import Derived.Test.YtelbahebpmkfjaaGreatKGlA
set_option maxRecDepth 100000
set_option maxHeartbeats 16000000
namespace Go.Proofs.YtelbahebpmkfjaaGreat
open Go Go.RowKit
section
variable {X:Cx} {σ:AS} {o:Oper} {K:AS→Prop} {t:Nat}
theorem Qse {T e:TypeId} {x lo hi mx:Operand} {p i j m:Nat} {es:List (List D)} {dp:Bool} {u v q:Int} [te:TI X.P e] (ho:o.op=.slice T x (some lo) (some hi) (some mx)) (hd:o.dst=some t) (hT:QaZ X T=some e) (hx:σ.ev x=.row p) (hp:Qam σ.ob p=some (.row e es dp))
  (hlo:σ.ev lo=.d (.n .i64 u)) (hi':u=(i:Int)) (hhi:σ.ev hi=.d (.n .i64 v)) (hj:v=(j:Int)) (hmx:σ.ev mx=.d (.n .i64 q)) (hm:q=(m:Int)) (hb:i≤j∧j≤m∧m≤es.length) (ht:Nat.blt t σ.nt=true) (hK:K (σ.put t .any)):QOk X o σ K:=by
 subst hi';subst hj;subst hm
 refine Qbc hd ht (fun a w en h=>?_) hK
 have hu:=QaN hT
 obtain ⟨y,hy,hyn,hya,A,c,g1,g2,g4,g5,g6⟩:=QgQ h hp
 obtain ⟨y',hy',e1,e2,e3⟩:=QaS h hx
 have:=h.mem.ent_unique hy' hy (e1.trans hyn.symm)
 subst this
 obtain ⟨F1,⟨f1,_⟩,_⟩:=QaS h hlo
 obtain ⟨F2,⟨f2,_⟩,_⟩:=QaS h hhi
 obtain ⟨F3,⟨f3,_⟩,_⟩:=QaS h hmx
 obtain ⟨q,h12,_,h13,_⟩:=te.parts
 have hbnd:∀w':World,(Instr.sliceBounds true es.length c (some (.int .i64 i)) (some (.int .i64 j)) (some (.int .i64 m))).run X.P w'=.ok (i,j,m) w':=fun w'=>by
  have b:∀(x y:Nat) (c:BoundsCode) (w:World),x≤y→(Instr.sliceBound (.int .i64 (x:Int)) y c).run X.P w=.ok x w:=fun x y c w h=>by
   rw [run_sliceBound w .i64 x y c (by omega) (by omega)];simp
  have h1:m≤c:=by omega
  simp [Instr.sliceBounds, *]
 rw [g1] at e3
 refine ⟨.slice (if m=i then A else A.map (·.add (i * te.size))) (j - i) (m - i),fun w' _=>?_,trivial⟩
 simp only [execOp,ho,e3,Option.map_some,f1,f2,f3,Instr.sliceAt,Sem.run_bind,run_underlying hu,Instr.slice,hbnd w',sizeOf,typeInfo,run_program,h12,h13,Sem.run_pure,Result.andThen]
end
attribute [local irreducible] AWp Qat OpOk ACalls ChA QsOk MCalls NCalls EnC PY
theorem QnN {E:List (List D)} {k m:Nat} (h:Qcn E=true):Qcn (E.take k++(E.drop (k+1)++E.drop m))=true:=by
 unfold Qcn at *
 rw [List.all_eq_true] at *
 intro x hx
 rcases List.mem_append.1 hx with hx|hx
 ·exact h x (List.mem_of_mem_take hx)
 ·rcases List.mem_append.1 hx with hx|hx
  ·exact h x (List.mem_of_mem_drop hx)
  ·exact h x (List.mem_of_mem_drop hx)
theorem QqT {E:List (List D)} {z:List D} {k m a i n:Nat} (h:Qcn E=true) (hz:z.all D.flat1=true:=by rfl):Qcn ((E.take k++(E.drop (k+1)++E.drop m)).take i++(List.replicate a z++(E.take k++(E.drop (k+1)++E.drop m)).drop n))=true:=by
 have h1:=QnN (k:=k) (m:=m) h
 unfold Qcn at h1 ⊢
 rw [List.all_eq_true] at h1 ⊢
 intro x hx
 rcases List.mem_append.1 hx with hx|hx
 ·exact h1 x (List.mem_of_mem_take hx)
 ·rcases List.mem_append.1 hx with hx|hx
  ·rw [List.eq_of_mem_replicate hx];exact hz
  ·exact h1 x (List.mem_of_mem_drop hx)
theorem Qxt {l:List Job} {k a n:Nat} {z:List D} (hk:k<l.length):List.take (l.length - 1) ((List.take k (jobE l)++(List.drop (k+1) (jobE l)++List.drop (l.length - 1) (jobE l))).take (l.length - 1)++(List.replicate a z++(List.take k (jobE l)++(List.drop (k+1) (jobE l)++List.drop (l.length - 1) (jobE l))).drop n))=jobE (l.eraseIdx k):=by
 have hle:=Qak l
 have h1:(List.take k (jobE l)++List.drop (k+1) (jobE l)).length=l.length - 1:=by
  rw [List.length_append,List.length_take,List.length_drop];omega
 have h2:(List.take k (jobE l)++(List.drop (k+1) (jobE l)++List.drop (l.length - 1) (jobE l))).take (l.length - 1)=List.take k (jobE l)++List.drop (k+1) (jobE l):=by
  rw [←List.append_assoc,List.take_append_of_le_length (by omega),←h1,List.take_length]
 rw [h2,List.take_append_of_le_length (by omega),←h1,List.take_length,List.eraseIdx_eq_take_drop_succ]
 simp [jobE,List.map_take,List.map_drop]
theorem Qoh {l:List Job} {k:Nat} (hk:k<l.length) (hl:l.length≤1000000000):NCalls Tryz.prog 193 [.row 500000,.d (.n .i64 k),.d (.n .i64 ((k+1:Nat):Int))] [(500000,.row 78 (jobE l) true)] (fun _:Unit=>True) (fun _=>[.row 0]) (fun _=>[(0,.row 78 (jobE (l.eraseIdx k)) true)]):=by
 refine Qdo tt Tryz.func193 rfl rfl rfl (fun _ _=>rfl) (fun w0 Z O=>?_)
 have hle:=Qak l
 have hfl:Qcn (jobE l)=true:=QaG fun _=>rfl
 have hfd:=QnN (k:=k) (m:=l.length - 1) hfl
 repeat' (first|refine zsr ?_|(refine zhm fun hb=>?_;try exact zab)|refine zdr ?_|(apply zchE;exact zcg)|(apply zch;exact zcg)|refine HopS.mk fun w0 Z O=>?_|exact zhk|refine zg3 ?_ ?_|(apply Qcj;first|(refine QOk.ok (Qse rfl rfl rfl rfl rfl rfl rfl rfl rfl rfl rfl (by omega) rfl ?_))|(refine Qqm (j:=k+1) (m:=l.length - 1) rfl rfl rfl rfl rfl rfl ⟨rfl,rfl,rfl⟩ hfl hle (by omega) (by omega) rfl ?_)|(refine QOk.ok (Qlj (n:=l.length) (i:=l.length - 1) (j:=l.length) rfl rfl rfl rfl rfl (by simp;omega) rfl (by omega) rfl (by omega) (by omega) rfl ?_))|(refine Qi8 rfl rfl rfl rfl rfl ⟨rfl,rfl,rfl⟩ rfl rfl rfl rfl hfd (by omega) ?_))|refine zln fun _=>?_|refine zop ?_|fail)
 show AWp _ _ _ _
 refine Qpe 6 rfl rfl (QqT hfl) (by simp;omega) rfl ?_
 apply Qab
 refine zn () [500000] (by exact trivial) ?_ ?_
 repeat'(first|apply And.intro|exact ze0|refine ze1 ?_|refine zei ?_ ?_|exact rfl|trivial)
 all_goals exact Stop.mk (Qxt hk)
end Go.Proofs.YtelbahebpmkfjaaGreat
namespace Go.Proofs.YtelbahebpmkfjaaGreat
open Go Go.RowKit
attribute [local irreducible] AWp Qat OpOk ACalls ChA QsOk MCalls NCalls EnC PY
@[reducible] def Qdc (s:State) (q1 q2:Nat):List AV:=[.d (.sl (intE s.topo.parents)),.d (.sl (QaD s.topo.nodes)),.d (.sl (Qaw s.up)),.d (.n .i64 s.lic.a),.d (.n .i64 s.lic.b),.d (.n .i64 s.lic.c),.d (.n .i64 s.depth),.d (.n .i64 s.now),.d (.sl (jobE s.queue)),.row q1,.row q2]
theorem Qo2 {s:State} (hs:Small 1000000000 s):MCalls Tryz.prog 239 [.agg (Qdc s 1000000 1000001)] [(1000000,.row 148 (runE s.runs) false),(1000001,.row 150 (endE s.ends) true)] (fun _:Unit=>True) (fun _=>[QcC ((empO s).getD zR),.d (.b (empO s).isSome)]) (fun _=>[(1000000,.row 148 (runE s.runs) false),(1000001,.row 150 (endE s.ends) true)]) (fun _=>[]):=by
 refine Qag tt Tryz.func239 rfl rfl rfl ⟨.inr (.inr rfl),.inl rfl,trivial⟩ (fun _ _=>⟨⟨⟨rfl,rfl,rfl⟩,⟨rfl,rfl,rfl⟩,trivial⟩,.inr (.inr rfl),.inl rfl,trivial⟩) (fun w0 Z O=>?_)
 have hbl:=Qaq s.up
 have hnl:=Qar s.topo.nodes
 have hup:=hs.up
 have hno:=hs.nod
 have c1:=Qe1 (t:=s.topo) hs.par hs.nod
 have c2:=Qb8 (v:=s.lic)
 cases h1:Qbl s.topo with
 | false=>
  rw [h1] at c1
  rw [QjH (.inl h1)]
  repeat' (first|refine zsr ?_|(refine zhm fun hb=>?_;try exact zab)|refine zg2 ?_ ?_|refine zln fun _=>?_|refine zop ?_|refine kc (c1) rfl rfl ?_|fail)
  show AWp _ _ _ _
  refine Qac ?_
  apply Qab
  exact zm () [] trivial zae zae zae
 | true=>
  rw [h1] at c1
  by_cases h2:s.up.length=s.topo.nodes.length
  ·cases h3:Qal s.lic with
   | false=>
    rw [h3] at c2
    rw [QjH (.inr (.inr h3))]
    repeat' (first|refine zsr ?_|(refine zhm fun hb=>?_;try exact zab)|refine zg2 ?_ ?_|refine zln fun _=>?_|refine zop ?_|refine kc (c1) rfl rfl ?_|refine kc (c2) rfl rfl ?_|fail)
    show AWp _ _ _ _
    refine Qac ?_
    apply Qab
    exact zm () [] trivial zae zae zae
   | true=>
    rw [h3] at c2
    have ht:=Qbz.1 h1
    have h4:=ht.len
    have h5:=ht.nlen
    have hok:=QdM ht h2 h3
    have hen:(Qa5 s.topo s.up s.lic).profs=QeF s.topo.nodes:=rfl
    rw [Qlx ht h2 h3]
    repeat' (first|refine zst ?_|(refine zhm fun hb=>?_;try exact zab)|refine zg2 ?_ ?_|refine zln fun _=>?_|refine zop ?_|refine kc (c1) rfl rfl ?_|refine kc (c2) rfl rfl ?_|fail)
    refine Qae (fun (k:Nat×List (List Pt))=>⟨65,[(1,.ptr 1 0),(2,.ptr 2 0),(4,.ptr 4 0),(37,.d (.sl (QaD s.topo.nodes))),(38,.d (.n .i64 (s.topo.nodes.length:Nat))),(39,.d (.n .i64 k.1))],[(1000000,.row 148 (runE s.runs) false),(1000001,.row 150 (endE s.ends) true),(1,.box 43 (Qdc s 1000000 1000001)),(2,.box 212 [.nil,.nil,.nil,.nil,.nil]),(4,.box 212 [.d (.sl (intE s.topo.parents)),.d (.sl (QaD s.topo.nodes)),.d (.sl (Qaw s.up)),slN 53 (QaU k.2),.nil])]++slO 53 210 (QaU k.2)⟩) (fun k=>k.1≤s.topo.nodes.length∧k.2=QeF (s.topo.nodes.take k.1)) (fun k=>s.topo.nodes.length - k.1) (0,[]) (by exact ⟨Nat.zero_le _,rfl⟩) ?_ ?_
    ·refine ⟨rfl,?_,?_,rfl⟩
     repeat'(first|apply And.intro|exact ze0|refine ze1 ?_|refine zei ?_ ?_|exact rfl|trivial)
     all_goals exact Stop.mk (by first|rfl|exact Qar _)
    ·rintro ⟨n,out⟩ ⟨hn,ho⟩
     dsimp only at hn ho ⊢
     have hol:out.length=n:=by rw [ho,QeF,List.length_map,List.length_take];omega
     have hol2:=Qan out
     by_cases hn':n<s.topo.nodes.length
     ·have hnx:=Qe4 hn'
      rw [←ho] at hnx
      have hc:=ht.nodes n hn'
      cases out with
      | nil=>
       repeat' (first|(refine Qaj 8 46 rfl ?_)|refine zst ?_|(refine zhm fun hb=>?_;try exact zab)|refine zg2 ?_ ?_|refine zln fun _=>?_|refine zop ?_|refine kc (QbP (v:=(nth s.topo.nodes n).cap) hc.2.2) rfl rfl ?_|fail)
       refine ⟨(n+1,[]++[[⟨0,(nth s.topo.nodes n).cap⟩]]),⟨by omega,hnx.symm⟩,by omega,?_⟩
       exact ⟨rfl,zae,zae,rfl⟩
      | cons p0 o0=>
       repeat' (first|(refine Qaj 8 46 rfl ?_)|refine zst ?_|(refine zhm fun hb=>?_;try exact zab)|refine zg2 ?_ ?_|refine zln fun _=>?_|refine zop ?_|refine kc (QbP (v:=(nth s.topo.nodes n).cap) hc.2.2) rfl rfl ?_|fail)
       refine ⟨(n+1,(p0::o0)++[[⟨0,(nth s.topo.nodes n).cap⟩]]),⟨by omega,hnx.symm⟩,by omega,?_⟩
       refine ⟨rfl,?_,?_,rfl⟩
       repeat'(first|apply And.intro|exact ze0|refine ze1 ?_|refine zei ?_ ?_|exact rfl|trivial)
       all_goals exact Stop.mk (by first|rfl|exact Qcu (p0::o0) _)
     ·have hall:QeF s.topo.nodes=out:=by rw [ho,List.take_of_length_le (by omega)]
      cases out with
      | nil=>
       have hcp:=Qk0 (tp:=s.topo) (up:=s.up) (li:=[⟨0,s.lic⟩]) (by unfold Qa5 at hok;rw [show (s.topo.nodes.map fun n=>[(⟨0,n.cap⟩:Pt)])=[] from hall] at hok;exact hok)
       unfold Qa5
       rw [show (s.topo.nodes.map fun n=>[(⟨0,n.cap⟩:Pt)])=[] from hall]
       repeat' (first|(refine Qaj 11 59 rfl ?_)|refine zsr ?_|(refine zhm fun hb=>?_;try exact zab)|refine zg2 ?_ ?_|refine zln fun _=>?_|refine zop ?_|refine kc (QbP (v:=s.lic) h3) rfl rfl ?_|(refine km [] (hcp) rfl rfl (fun i hi=>?_);(try dsimp only at hi))|fail)
       show AWp _ _ _ _
       refine Qac ?_
       apply Qab
       exact zm () [] trivial zae zae zae
      | cons p0 o0=>
       have hcp:=Qh8 hok (by rw [hen,hall];exact Nat.succ_pos _)
       unfold Qa5 at hcp
       rw [show (s.topo.nodes.map fun n=>[(⟨0,n.cap⟩:Pt)])=p0::o0 from hall] at hcp
       unfold Qa5
       rw [show (s.topo.nodes.map fun n=>[(⟨0,n.cap⟩:Pt)])=p0::o0 from hall]
       repeat' (first|(refine Qaj 11 59 rfl ?_)|(refine Qaj 11 53 rfl ?_)|refine zsr ?_|(refine zhm fun hb=>?_;try exact zab)|refine zg2 ?_ ?_|refine zln fun _=>?_|refine zop ?_|refine kc (QbP (v:=s.lic) h3) rfl rfl ?_|(refine km [] (hcp) rfl rfl (fun i hi=>?_);(try dsimp only at hi))|fail)
       show AWp _ _ _ _
       refine Qav 64 rfl ?_
       refine Qac ?_
       apply Qab
       exact zm () [] trivial zae zae zae
  ·rw [QjH (.inr (.inl h2))]
   repeat' (first|refine zsr ?_|(refine zhm fun hb=>?_;try exact zab)|refine zg2 ?_ ?_|refine zln fun _=>?_|refine zop ?_|refine kc (c1) rfl rfl ?_|refine kc (c2) rfl rfl ?_|fail)
   any_goals
    show AWp _ _ _ _
    refine Qac ?_
    apply Qab
    refine zm () [] trivial ?_ ?_ ?_
    repeat'(first|apply And.intro|exact ze0|refine ze1 ?_|refine zei ?_ ?_|exact rfl|trivial)
    all_goals exact Stop.mk rfl
theorem QkE {s:State} (hs:Small 1000000000 s):MCalls Tryz.prog 176 [.agg (Qdc s 1000000 1000001)] [(1000000,.row 148 (runE s.runs) false),(1000001,.row 150 (endE s.ends) true)] (fun _:Unit=>True) (fun _=>(QfB (Qbu s))) (fun _=>[(1000000,.row 148 (runE s.runs) false),(1000001,.row 150 (endE s.ends) true)]) (fun _=>[]):=by
 refine Qag tt Tryz.func176 rfl rfl rfl ⟨.inr (.inr rfl),.inl rfl,trivial⟩ (fun _ _=>⟨⟨⟨rfl,rfl,rfl⟩,⟨rfl,rfl,rfl⟩,trivial⟩,.inr (.inr rfl),.inl rfl,trivial⟩) (fun w0 Z O=>?_)
 have c1:=Qo2 hs
 have c3:=Qce (x:=s.now)
 by_cases hB:BaseP s
 ·have h1:=hB.up
  have h2:=hB.now
  have h3:=hB.topo.nlen
  have h4:=hB.topo.len
  rw [Qlx hB.topo hB.up hB.lic] at c1
  rw [show inB s.now 0 1000000000=true by rw [QcM];exact h2] at c3
  rw [Qkt hB]
  repeat' (first|refine zst ?_|(refine zhm fun hb=>?_;try exact zab)|refine zg2 ?_ ?_|refine zln fun _=>?_|refine zop ?_|refine kc (c3) rfl rfl ?_|(refine km [1000000,1000001] (c1) rfl rfl (fun i hi=>?_);(try dsimp only at hi))|fail)
  refine Qae (fun (k:Nat×Room)=>⟨93,[(1,.ptr 1 0),(2,.ptr 2 0),(4,.ptr 4 0),(27,.row 1000000),(28,.d (.n .i64 (s.runs.length:Nat))),(29,.d (.n .i64 k.1))],[(1000000,.row 148 (runE s.runs) false),(1000001,.row 150 (endE s.ends) true),(1,.box 43 (Qdc s 1000000 1000001)),(2,.box 212 [.nil,.nil,.nil,.nil,.nil]),(4,.box 212 (QgP k.2))]⟩) (fun k=>GoP s k.1 k.2) (fun k=>s.runs.length - k.1) (0,Qa5 s.topo s.up s.lic) (by exact ⟨Nat.zero_le _,QdM hB.topo h1 hB.lic,rfl⟩) ?_ ?_
  ·refine ⟨rfl,?_,?_,rfl⟩
   repeat'(first|apply And.intro|exact ze0|refine ze1 ?_|refine zei ?_ ?_|exact rfl|trivial)
   all_goals exact Stop.mk (by first|rfl|exact Qah _)
  ·rintro ⟨n,r⟩ hg
   dsimp only at hg ⊢
   have hle:=hg.le
   have hrl:=Qah s.runs
   by_cases hn:n<s.runs.length
   ·have c5:=QiX (j:=(nth s.runs n).job) (l:=(nth s.runs n).nodes) hg.ok (hs.rno n hn)
    cases hd:(Qau (nth s.runs n).job&&QeS r.topo (nth s.runs n).job (nth s.runs n).nodes) with
    | false=>
     rw [hd] at c5
     have hnone:Qdp s.now s.runs (Qa5 s.topo s.up s.lic)=none:=by
      cases hb0:runB s.now (nth s.runs n) with
      | false=>exact Qqb hg hn hb0
      | true=>
       refine QsD hg hn ?_
       cases hj:Qau (nth s.runs n).job with
       | false=>exact QiC hj
       | true=>rw [hj,Bool.true_and] at hd;exact Qip hd
     rw [hnone]
     repeat' (first|refine zsr ?_|(refine zhm fun hb=>?_;try exact zab)|refine zg2 ?_ ?_|(apply Qcj;first|refine zom ?_|(apply QOk.ok;refine Qgl rfl rfl rfl rfl rfl rfl ?_))|refine zln fun _=>?_|refine zop ?_|refine kc (c5) rfl rfl ?_|fail)
     show AWp _ _ _ _
     refine Qac ?_
     apply Qab
     exact zm () [] trivial zae zae zae
    | true=>
     rw [hd] at c5
     rw [Bool.and_eq_true] at hd
     obtain ⟨k4,k5⟩:=Qcg hd.1
     cases hb0:runB s.now (nth s.runs n) with
     | false=>
      rw [Qqb hg hn hb0]
      by_cases hat:0≤(nth s.runs n).at'∧(nth s.runs n).at'≤1000000000
      ·have c6:=Qce (x:=(nth s.runs n).at')
       repeat' (first|refine zsr ?_|(refine zhm fun hb=>?_;try exact zab)|refine zg2 ?_ ?_|refine zln fun _=>?_|refine zon ?_|refine kc (c5) rfl rfl ?_|refine kc (c6) rfl rfl ?_|fail)
       all_goals first
        | (exfalso;have:=(QdN (now:=s.now) (x:=nth s.runs n)).2 ⟨hd.1,by omega,by omega,by omega⟩;rw [hb0] at this;cases this;done)
        | skip
       any_goals
        show AWp _ _ _ _
        refine Qac ?_
        apply Qab
        refine zm () [] trivial ?_ ?_ ?_
        repeat'(first|apply And.intro|exact ze0|refine ze1 ?_|refine zei ?_ ?_|exact rfl|trivial)
        all_goals exact Stop.mk rfl
      ·have c6:=Qce (x:=(nth s.runs n).at')
       rw [show inB (nth s.runs n).at' 0 1000000000=false by rw [QpC];omega] at c6
       repeat' (first|refine zsr ?_|(refine zhm fun hb=>?_;try exact zab)|refine zg2 ?_ ?_|(apply Qcj;first|refine zom ?_|(apply QOk.ok;refine Qgl rfl rfl rfl rfl rfl rfl ?_))|refine zln fun _=>?_|refine zon ?_|refine kc (c5) rfl rfl ?_|refine kc (c6) rfl rfl ?_|fail)
       show AWp _ _ _ _
       refine Qac ?_
       apply Qab
       exact zm () [] trivial zae zae zae
     | true=>
      obtain ⟨k1,k2,k3⟩:=QdN.1 hb0
      have c6:=Qce (x:=(nth s.runs n).at')
      have c7:=Qik (j:={ (nth s.runs n).job with wall:=(nth s.runs n).at'+(nth s.runs n).job.wall - s.now }) (a:=s.now) hg.ok (hs.rno n hn) h2
      have hjo:Qau { (nth s.runs n).job with wall:=(nth s.runs n).at'+(nth s.runs n).job.wall - s.now }=true:=by
       have:=k1
       simp only [Qau,Bool.and_eq_true,QcM] at this ⊢
       exact ⟨⟨this.1.1,by omega⟩,this.2⟩
      rw [QlS (j:=(nth s.runs n).job) k1 hjo rfl rfl rfl] at c7
      dsimp only at c7
      rw [show s.now+((nth s.runs n).at'+(nth s.runs n).job.wall - s.now)=(nth s.runs n).at'+(nth s.runs n).job.wall by omega] at c7
      cases hq:resO r (nth s.runs n).job s.now ((nth s.runs n).at'+(nth s.runs n).job.wall) (nth s.runs n).nodes with
      | none=>
       rw [hq] at c7
       rw [QsD hg hn hq]
       repeat' (first|refine zsr ?_|(refine zhm fun hb=>?_;try exact zab)|refine zg2 ?_ ?_|refine zln fun _=>?_|refine zon ?_|refine kc (c5) rfl rfl ?_|refine kc (c6) rfl rfl ?_|(refine km [] (c7) rfl rfl (fun i hi=>?_);(try dsimp only at hi))|fail)
       show AWp _ _ _ _
       refine Qac ?_
       apply Qab
       exact zm () [] trivial zae zae zae
      | some r'=>
       rw [hq] at c7
       have hst:=Qwp hg hn hb0 hq
       repeat' (first|refine zsr ?_|(refine zhm fun hb=>?_;try exact zab)|refine zg2 ?_ ?_|refine zln fun _=>?_|refine zon ?_|refine kc (c5) rfl rfl ?_|refine kc (c6) rfl rfl ?_|(refine km [] (c7) rfl rfl (fun i hi=>?_);(try dsimp only at hi))|fail)
       refine ⟨(n+1,r'),hst,by dsimp only;omega,?_⟩
       exact ⟨rfl,zae,zae,rfl⟩
   ·rw [Qwj hg hn]
    repeat' (first|refine zsr ?_|(refine zhm fun hb=>?_;try exact zab)|refine zg2 ?_ ?_|refine zln fun _=>?_|refine zop ?_|fail)
    show AWp _ _ _ _
    refine Qac ?_
    apply Qab
    exact zm () [] trivial zae zae zae
 ·rw [Qko hB]
  cases he:empO s with
  | none=>
   rw [he] at c1
   repeat' (first|refine zsr ?_|(refine zhm fun hb=>?_;try exact zab)|refine zg2 ?_ ?_|refine zln fun _=>?_|refine zop ?_|(refine km [1000000,1000001] (c1) rfl rfl (fun i hi=>?_);(try dsimp only at hi))|fail)
   show AWp _ _ _ _
   refine Qac ?_
   apply Qab
   exact zm () [] trivial zae zae zae
  | some r0=>
   rw [he] at c1
   rw [show inB s.now 0 1000000000=false by
    rw [QpC]
    rcases Classical.em (0≤s.now∧s.now≤1000000000) with h|h
    ·exact absurd (Qlo.2 ⟨by rw [he];rfl,h⟩) hB
    ·omega] at c3
   repeat' (first|refine zsr ?_|(refine zhm fun hb=>?_;try exact zab)|refine zg2 ?_ ?_|refine zln fun _=>?_|refine zop ?_|refine kc (c3) rfl rfl ?_|(refine km [1000000,1000001] (c1) rfl rfl (fun i hi=>?_);(try dsimp only at hi))|fail)
   show AWp _ _ _ _
   refine Qac ?_
   apply Qab
   exact zm () [] trivial zae zae zae
end Go.Proofs.YtelbahebpmkfjaaGreat
