/-
  The empty room, both.
-/
import Derived.Test.YtelbahebpmkfjaaGreatKB7
import Derived.Test.YtelbahebpmkfjaaGreatKB18
import Derived.Test.YtelbahebpmkfjaaGreatKGlA
set_option maxRecDepth 100000
set_option maxHeartbeats 16000000
namespace Go.Proofs.YtelbahebpmkfjaaGreat
open Go Go.RowKit
attribute [local irreducible] AWp Qat OpOk ACalls ChA QsOk MCalls EnC PY

def QeF (l:List Node):List (List Pt):=l.map fun n=>[⟨0,n.cap⟩]
theorem Qe4 {l:List Node} {n:Nat} (h:n<l.length):QeF (l.take (n+1))=QeF (l.take n)++[[⟨0,(nth l n).cap⟩]]:=by
 rw [Qas h]
 simp [QeF]
theorem QqC {t:Topo} {up:List Bool} {lic:V3} (h:TopoOk t) (hu:up.length=t.nodes.length) (hv:Qal lic=true):DC Tryz.prog 205 [Qcw t,.d (.sl (Qaw up)),vecA lic] [QcC (Qa5 t up lic)]:=by
 refine Qag tt Tryz.func205 rfl rfl rfl trivial (fun _ _=>⟨trivial,trivial⟩) (fun w0 Z O=>?_)
 have h1:=h.len
 have h2:=h.nlen
 have hbl:=Qaq up
 have hnl:=Qar t.nodes
 repeat' (first|(refine Qaj 2 15 rfl ?_)|refine zst ?_|(refine zhm fun hb=>?_;try exact zab)|refine zg2 ?_ ?_|refine zln fun _=>?_|refine zop ?_|(refine km [] (Qe6 (t:=t) (by omega) (by omega)) rfl rfl (fun i hi=>?_);(try dsimp only at hi))|fail)
 refine Qae (fun (k:Nat×List (List Pt))=>⟨44,[(5,.ptr 5 0),(6,.ptr 6 0),(7,.ptr 7 0),(18,.d (.sl (QaD t.nodes))),(19,.d (.n .i64 (t.nodes.length:Nat))),(20,.d (.n .i64 k.1))],[(5,.box 38 (vecC lic)),(6,.box 212 [.nil,.nil,.nil,.nil,.nil]),(7,.box 212 [.d (.sl (intE t.parents)),.d (.sl (QaD t.nodes)),.d (.sl (Qaw up)),slN 34 (QaU k.2),.nil])]++slO 34 210 (QaU k.2)⟩) (fun k=>k.1≤t.nodes.length∧k.2=QeF (t.nodes.take k.1)) (fun k=>t.nodes.length - k.1) (0,[]) (by exact ⟨Nat.zero_le _,rfl⟩) ?_ ?_
 ·refine ⟨rfl,?_,?_,rfl⟩
  repeat'(first|apply And.intro|exact ze0|refine ze1 ?_|refine zei ?_ ?_|exact rfl|trivial)
  all_goals exact Stop.mk (by first|rfl|exact Qar _)
 ·rintro ⟨n,out⟩ ⟨hn,ho⟩
  dsimp only at hn ho ⊢
  have hol:out.length=n:=by rw [ho,QeF,List.length_map,List.length_take];omega
  have hol2:=Qan out
  by_cases hn':n<t.nodes.length
  ·have hnx:=Qe4 hn'
   rw [←ho] at hnx
   have hc:=h.nodes n hn'
   cases out with
   | nil=>
    repeat' (first|(refine Qaj 6 27 rfl ?_)|refine zst ?_|(refine zhm fun hb=>?_;try exact zab)|refine zg2 ?_ ?_|refine zln fun _=>?_|refine zop ?_|refine kc (Qgg (v:=(nth t.nodes n).cap) hc.2.2) rfl rfl ?_|fail)
    refine ⟨(n+1,[]++[[⟨0,(nth t.nodes n).cap⟩]]),⟨by omega,hnx.symm⟩,by omega,?_⟩
    exact ⟨rfl,zae,zae,rfl⟩
   | cons p0 o0=>
    repeat' (first|(refine Qaj 6 27 rfl ?_)|refine zst ?_|(refine zhm fun hb=>?_;try exact zab)|refine zg2 ?_ ?_|refine zln fun _=>?_|refine zop ?_|refine kc (Qgg (v:=(nth t.nodes n).cap) hc.2.2) rfl rfl ?_|fail)
    refine ⟨(n+1,(p0::o0)++[[⟨0,(nth t.nodes n).cap⟩]]),⟨by omega,hnx.symm⟩,by omega,?_⟩
    refine ⟨rfl,?_,?_,rfl⟩
    repeat'(first|apply And.intro|exact ze0|refine ze1 ?_|refine zei ?_ ?_|exact rfl|trivial)
    all_goals exact Stop.mk (by first|rfl|exact Qcu (p0::o0) _)
  ·have hall:out=(Qa5 t up lic).profs:=by rw [ho,List.take_of_length_le (by omega)];rfl
   cases out with
   | nil=>
    repeat' (first|(refine Qaj 9 39 rfl ?_)|refine zsr ?_|(refine zhm fun hb=>?_;try exact zab)|refine zg2 ?_ ?_|refine zln fun _=>?_|refine zop ?_|refine kc (Qgg (v:=lic) hv) rfl rfl ?_|fail)
    show AWp _ _ _ _
    refine Qac ?_
    apply Qab
    refine zm () [] trivial ?_ ?_ ?_
    repeat'(first|apply And.intro|exact ze0|refine ze1 ?_|refine zei ?_ ?_|exact rfl|trivial)
    all_goals exact Stop.mk (by first|rfl|(rw [←hall];done)|(rw [←hall];rfl))
   | cons p0 o0=>
    repeat' (first|(refine Qaj 9 39 rfl ?_)|refine zsr ?_|(refine zhm fun hb=>?_;try exact zab)|refine zg2 ?_ ?_|refine zln fun _=>?_|refine zop ?_|refine kc (Qgg (v:=lic) hv) rfl rfl ?_|fail)
    show AWp _ _ _ _
    refine Qav 34 rfl ?_
    refine Qac ?_
    apply Qab
    refine zm () [] trivial ?_ ?_ ?_
    repeat'(first|apply And.intro|exact ze0|refine ze1 ?_|refine zei ?_ ?_|exact rfl|trivial)
    all_goals exact Stop.mk (by first|rfl|(rw [←hall];done)|(rw [←hall];rfl))
theorem Qk0 {tp:Topo} {up:List Bool} {li:List Pt} (h:RoomOk ⟨tp,up,[],li⟩):DC Tryz.prog 292 [.agg [.d (.sl (intE tp.parents)),.d (.sl (QaD tp.nodes)),.d (.sl (Qaw up)),.nil,.d (.sl (ptE li))]] [QcC ⟨tp,up,[],li⟩]:=by
 refine Qag tt Tryz.func292 rfl rfl rfl trivial (fun _ _=>⟨trivial,trivial⟩) (fun w0 Z O=>?_)
 have hs:=h.small
 dsimp only at hs
 have hbl:=Qaq up
 have hnl:=Qar tp.nodes
 have hil:=Qad tp.parents
 repeat' (first|(refine Qaj 3 6 rfl ?_)|(refine Qaj 3 14 rfl ?_)|(refine Qaj 3 19 rfl ?_)|refine zst ?_|(refine zhm fun hb=>?_;try exact zab)|refine zdr ?_|(apply zch;exact zcg)|refine HopS.mk fun w0 Z O=>?_|exact zhk|refine zg3 ?_ ?_|refine zln fun _=>?_|refine zop ?_|(refine km [] (Qc9 (l:=li) (by omega)) rfl rfl (fun i hi=>?_);(try dsimp only at hi))|fail)
 refine Qae (fun (_:Unit)=>⟨42,[(2,.ptr 2 0),(3,.ptr 3 0),(27,.nil),(28,.d (.n .i64 0)),(29,.d (.n .i64 0))],[(2,.box 212 [.nil,.nil,.nil,.nil,.nil]),(3,.box 212 [.d (.sl (intE tp.parents)),.d (.sl (QaD tp.nodes)),.d (.sl (Qaw up)),.nil,.d (.sl (ptE li))])]⟩) (fun _=>True) (fun _=>0) () trivial ?_ ?_
 ·exact ⟨rfl,zae,zae,rfl⟩
 ·intro _ _
  repeat' (first|refine zsr ?_|(refine zhm fun hb=>?_;try exact zab)|refine zdr ?_|(apply zch;exact zcg)|refine HopS.mk fun w0 Z O=>?_|exact zhk|refine zg3 ?_ ?_|refine zln fun _=>?_|refine zop ?_|fail)
  show AWp _ _ _ _
  refine Qac ?_
  apply Qab
  exact zm () [] trivial zae zae zae
noncomputable def empO (s:State):Option Room:=if (Qbl s.topo&&decide (s.up.length=s.topo.nodes.length)&&Qal s.lic)=true then some (Qa5 s.topo s.up s.lic) else none
theorem QjH {s:State} (h:Qbl s.topo=false∨s.up.length≠s.topo.nodes.length∨Qal s.lic=false):empO s=none:=by
 unfold empO
 rw [if_neg]
 rcases h with h|h|h <;> simp [h]
theorem Qlx {s:State} (h1:TopoOk s.topo) (h2:s.up.length=s.topo.nodes.length) (h3:Qal s.lic=true):empO s=some (Qa5 s.topo s.up s.lic):=by
 unfold empO
 rw [if_pos]
 simp [Qbz.2 h1,h2,h3]
theorem Qo0 {s:State} (hs:Small 1000000000 s):DC Tryz.prog 239 [QaA s] [QcC ((empO s).getD zR),.d (.b (empO s).isSome)]:=by
 refine Qag tt Tryz.func239 rfl rfl rfl trivial (fun _ _=>⟨trivial,trivial⟩) (fun w0 Z O=>?_)
 have hbl:=Qaq s.up
 have hnl:=Qar s.topo.nodes
 have hup:=hs.up
 have hno:=hs.nod
 have c1:=Qe1 (t:=s.topo) hs.par hs.nod
 have c2:=Qb8 (v:=s.lic)
 cases h1:Qbl s.topo with
 | false=>
  rw [h1] at c1
  rw [QjH (.inl h1)]
  repeat' (first|refine zsr ?_|(refine zhm fun hb=>?_;try exact zab)|refine zg2 ?_ ?_|refine zln fun _=>?_|refine zop ?_|refine kc (c1) rfl rfl ?_|fail)
  show AWp _ _ _ _
  refine Qac ?_
  apply Qab
  exact zm () [] trivial zae zae zae
 | true=>
  rw [h1] at c1
  by_cases h2:s.up.length=s.topo.nodes.length
  ·cases h3:Qal s.lic with
   | false=>
    rw [h3] at c2
    rw [QjH (.inr (.inr h3))]
    repeat' (first|refine zsr ?_|(refine zhm fun hb=>?_;try exact zab)|refine zg2 ?_ ?_|refine zln fun _=>?_|refine zop ?_|refine kc (c1) rfl rfl ?_|refine kc (c2) rfl rfl ?_|fail)
    show AWp _ _ _ _
    refine Qac ?_
    apply Qab
    exact zm () [] trivial zae zae zae
   | true=>
    rw [h3] at c2
    have ht:=Qbz.1 h1
    have h4:=ht.len
    have h5:=ht.nlen
    have hok:=QdM ht h2 h3
    have hen:(Qa5 s.topo s.up s.lic).profs=QeF s.topo.nodes:=rfl
    rw [Qlx ht h2 h3]
    repeat' (first|refine zst ?_|(refine zhm fun hb=>?_;try exact zab)|refine zg2 ?_ ?_|refine zln fun _=>?_|refine zop ?_|refine kc (c1) rfl rfl ?_|refine kc (c2) rfl rfl ?_|fail)
    refine Qae (fun (k:Nat×List (List Pt))=>⟨65,[(1,.ptr 1 0),(2,.ptr 2 0),(4,.ptr 4 0),(37,.d (.sl (QaD s.topo.nodes))),(38,.d (.n .i64 (s.topo.nodes.length:Nat))),(39,.d (.n .i64 k.1))],[(1,.box 43 (Qbw s)),(2,.box 212 [.nil,.nil,.nil,.nil,.nil]),(4,.box 212 [.d (.sl (intE s.topo.parents)),.d (.sl (QaD s.topo.nodes)),.d (.sl (Qaw s.up)),slN 53 (QaU k.2),.nil])]++slO 53 210 (QaU k.2)⟩) (fun k=>k.1≤s.topo.nodes.length∧k.2=QeF (s.topo.nodes.take k.1)) (fun k=>s.topo.nodes.length - k.1) (0,[]) (by exact ⟨Nat.zero_le _,rfl⟩) ?_ ?_
    ·refine ⟨rfl,?_,?_,rfl⟩
     repeat'(first|apply And.intro|exact ze0|refine ze1 ?_|refine zei ?_ ?_|exact rfl|trivial)
     all_goals exact Stop.mk (by first|rfl|exact Qar _)
    ·rintro ⟨n,out⟩ ⟨hn,ho⟩
     dsimp only at hn ho ⊢
     have hol:out.length=n:=by rw [ho,QeF,List.length_map,List.length_take];omega
     have hol2:=Qan out
     by_cases hn':n<s.topo.nodes.length
     ·have hnx:=Qe4 hn'
      rw [←ho] at hnx
      have hc:=ht.nodes n hn'
      cases out with
      | nil=>
       repeat' (first|(refine Qaj 8 46 rfl ?_)|refine zst ?_|(refine zhm fun hb=>?_;try exact zab)|refine zg2 ?_ ?_|refine zln fun _=>?_|refine zop ?_|refine kc (QbP (v:=(nth s.topo.nodes n).cap) hc.2.2) rfl rfl ?_|fail)
       refine ⟨(n+1,[]++[[⟨0,(nth s.topo.nodes n).cap⟩]]),⟨by omega,hnx.symm⟩,by omega,?_⟩
       exact ⟨rfl,zae,zae,rfl⟩
      | cons p0 o0=>
       repeat' (first|(refine Qaj 8 46 rfl ?_)|refine zst ?_|(refine zhm fun hb=>?_;try exact zab)|refine zg2 ?_ ?_|refine zln fun _=>?_|refine zop ?_|refine kc (QbP (v:=(nth s.topo.nodes n).cap) hc.2.2) rfl rfl ?_|fail)
       refine ⟨(n+1,(p0::o0)++[[⟨0,(nth s.topo.nodes n).cap⟩]]),⟨by omega,hnx.symm⟩,by omega,?_⟩
       refine ⟨rfl,?_,?_,rfl⟩
       repeat'(first|apply And.intro|exact ze0|refine ze1 ?_|refine zei ?_ ?_|exact rfl|trivial)
       all_goals exact Stop.mk (by first|rfl|exact Qcu (p0::o0) _)
     ·have hall:QeF s.topo.nodes=out:=by rw [ho,List.take_of_length_le (by omega)]
      cases out with
      | nil=>
       have hcp:=Qk0 (tp:=s.topo) (up:=s.up) (li:=[⟨0,s.lic⟩]) (by unfold Qa5 at hok;rw [show (s.topo.nodes.map fun n=>[(⟨0,n.cap⟩:Pt)])=[] from hall] at hok;exact hok)
       unfold Qa5
       rw [show (s.topo.nodes.map fun n=>[(⟨0,n.cap⟩:Pt)])=[] from hall]
       repeat' (first|(refine Qaj 11 59 rfl ?_)|refine zsr ?_|(refine zhm fun hb=>?_;try exact zab)|refine zg2 ?_ ?_|refine zln fun _=>?_|refine zop ?_|refine kc (QbP (v:=s.lic) h3) rfl rfl ?_|(refine km [] (hcp) rfl rfl (fun i hi=>?_);(try dsimp only at hi))|fail)
       show AWp _ _ _ _
       refine Qac ?_
       apply Qab
       exact zm () [] trivial zae zae zae
      | cons p0 o0=>
       have hcp:=Qh8 hok (by rw [hen,hall];exact Nat.succ_pos _)
       unfold Qa5 at hcp
       rw [show (s.topo.nodes.map fun n=>[(⟨0,n.cap⟩:Pt)])=p0::o0 from hall] at hcp
       unfold Qa5
       rw [show (s.topo.nodes.map fun n=>[(⟨0,n.cap⟩:Pt)])=p0::o0 from hall]
       repeat' (first|(refine Qaj 11 59 rfl ?_)|(refine Qaj 11 53 rfl ?_)|refine zsr ?_|(refine zhm fun hb=>?_;try exact zab)|refine zg2 ?_ ?_|refine zln fun _=>?_|refine zop ?_|refine kc (QbP (v:=s.lic) h3) rfl rfl ?_|(refine km [] (hcp) rfl rfl (fun i hi=>?_);(try dsimp only at hi))|fail)
       show AWp _ _ _ _
       refine Qav 64 rfl ?_
       refine Qac ?_
       apply Qab
       exact zm () [] trivial zae zae zae
  ·rw [QjH (.inr (.inl h2))]
   repeat' (first|refine zsr ?_|(refine zhm fun hb=>?_;try exact zab)|refine zg2 ?_ ?_|refine zln fun _=>?_|refine zop ?_|refine kc (c1) rfl rfl ?_|refine kc (c2) rfl rfl ?_|fail)
   any_goals
    show AWp _ _ _ _
    refine Qac ?_
    apply Qab
    refine zm () [] trivial ?_ ?_ ?_
    repeat'(first|apply And.intro|exact ze0|refine ze1 ?_|refine zei ?_ ?_|exact rfl|trivial)
    all_goals exact Stop.mk rfl
end Go.Proofs.YtelbahebpmkfjaaGreat
namespace Go.Proofs.YtelbahebpmkfjaaGreat
open Go Go.RowKit
attribute [local irreducible] AWp Qat OpOk ACalls ChA QsOk MCalls EnC PY

theorem Qkt {s:State} (h:BaseP s):Qbu s=Qdp s.now s.runs (Qa5 s.topo s.up s.lic):=if_pos (pB_t.2 h)
theorem Qko {s:State} (h:¬BaseP s):Qbu s=none:=if_neg (fun e=>h (pB_t.1 e))
structure GoP (s:State) (i:Nat) (r:Room):Prop where
 le:i≤s.runs.length
 ok:RoomOk r
 eq:Qdp s.now (s.runs.drop i) r=Qdp s.now s.runs (Qa5 s.topo s.up s.lic)
theorem Qqb {s:State} {i:Nat} {r:Room} (h:GoP s i r) (hi:i<s.runs.length) (hb:runB s.now (nth s.runs i)=false):Qdp s.now s.runs (Qa5 s.topo s.up s.lic)=none:=by
 rw [←h.eq,QdI hi,Qdp,if_neg (by rw [hb];decide)]
theorem QsD {s:State} {i:Nat} {r:Room} (h:GoP s i r) (hi:i<s.runs.length) (hq:resO r (nth s.runs i).job s.now ((nth s.runs i).at'+(nth s.runs i).job.wall) (nth s.runs i).nodes=none):Qdp s.now s.runs (Qa5 s.topo s.up s.lic)=none:=by
 rw [←h.eq,QdI hi,Qdp,hq]
 split <;> rfl
theorem Qwp {s:State} {i:Nat} {r r':Room} (h:GoP s i r) (hi:i<s.runs.length) (hb:runB s.now (nth s.runs i)=true) (hq:resO r (nth s.runs i).job s.now ((nth s.runs i).at'+(nth s.runs i).job.wall) (nth s.runs i).nodes=some r'):GoP s (i+1) r':=by
 refine ⟨by omega,(Qnf hq).1,?_⟩
 rw [←h.eq,QdI hi]
 conv=>rhs;rw [Qdp,if_pos hb,hq]
theorem Qwj {s:State} {i:Nat} {r:Room} (h:GoP s i r) (hi:¬i<s.runs.length):Qdp s.now s.runs (Qa5 s.topo s.up s.lic)=some r:=by
 rw [←h.eq,List.drop_eq_nil_of_le (by omega)]
 rfl
theorem QdN {now:Int} {x:Run}:runB now x=true↔Qau x.job=true∧(0≤x.at'∧x.at'≤now)∧now+1≤x.at'+x.job.wall∧x.at'+x.job.wall≤1000000000:=by
 simp only [runB,Bool.and_eq_true,QcM,and_assoc]
theorem Qcg {j:Job} (h:Qau j=true):(1≤j.nodes∧j.nodes≤24)∧1≤j.wall∧j.wall≤1000000:=by
 simp only [Qau,Bool.and_eq_true,QcM] at h
 omega
theorem QlS {r:Room} {j j':Job} {a b:Int} {l:List Int} (h1:Qau j=true) (h2:Qau j'=true) (hn:j'.nodes=j.nodes) (hd:j'.need=j.need) (hl:j'.lic=j.lic):resO r j' a b l=resO r j a b l:=by
 have e:QeS r.topo j' l=QeS r.topo j l:=by
  rw [Bool.eq_iff_iff]
  unfold QeS
  rw [pB_t,pB_t]
  exact ⟨fun h=>⟨h.nodes,h.diff,by rw [h.num,hn]⟩,fun h=>⟨h.nodes,h.diff,by rw [h.num,hn]⟩⟩
 unfold resO
 rw [h1,h2,e,hd,hl]
theorem Qgh {s:State} (hs:Small 1000000000 s):DC Tryz.prog 179 [QaA s] (QfB (Qbu s)):=by
 refine Qag tt Tryz.func179 rfl rfl rfl trivial (fun _ _=>⟨trivial,trivial⟩) (fun w0 Z O=>?_)
 have hbl:=Qaq s.up
 have hnl:=Qar s.topo.nodes
 have hup:=hs.up
 have hno:=hs.nod
 have c1:=Qhu (t:=s.topo) hs.par hs.nod
 have c2:=Qct (v:=s.lic)
 have c3:=QcB (x:=s.now)
 by_cases hB:BaseP s
 ·have h1:=hB.up
  have h2:=hB.now
  have h3:=hB.topo.nlen
  have h4:=hB.topo.len
  rw [Qbz.2 hB.topo] at c1
  rw [hB.lic] at c2
  rw [show inB s.now 0 1000000000=true by rw [QcM];exact h2] at c3
  rw [Qkt hB]
  repeat' (first|refine zst ?_|(refine zhm fun hb=>?_;try exact zab)|refine zg2 ?_ ?_|refine zln fun _=>?_|refine zop ?_|refine kc (c1) rfl rfl ?_|refine kc (c2) rfl rfl ?_|refine kc (c3) rfl rfl ?_|(refine km [] (QqC (t:=s.topo) (up:=s.up) (lic:=s.lic) hB.topo h1 hB.lic) rfl rfl (fun i hi=>?_);(try dsimp only at hi))|fail)
  refine Qae (fun (k:Nat×Room)=>⟨99,[(1,.ptr 1 0),(2,.ptr 2 0),(4,.ptr 4 0),(44,.d (.sl (runE s.runs))),(45,.d (.n .i64 (s.runs.length:Nat))),(46,.d (.n .i64 k.1))],[(1,.box 43 (Qbw s)),(2,.box 212 [.nil,.nil,.nil,.nil,.nil]),(4,.box 212 (QgP k.2))]⟩) (fun k=>GoP s k.1 k.2) (fun k=>s.runs.length - k.1) (0,Qa5 s.topo s.up s.lic) (by exact ⟨Nat.zero_le _,QdM hB.topo h1 hB.lic,rfl⟩) ?_ ?_
  ·refine ⟨rfl,?_,?_,rfl⟩
   repeat'(first|apply And.intro|exact ze0|refine ze1 ?_|refine zei ?_ ?_|exact rfl|trivial)
   all_goals exact Stop.mk (by first|rfl|exact Qah _)
  ·rintro ⟨n,r⟩ hg
   dsimp only at hg ⊢
   have hle:=hg.le
   have hrl:=Qah s.runs
   by_cases hn:n<s.runs.length
   ·cases hb0:runB s.now (nth s.runs n) with
    | false=>
     rw [Qqb hg hn hb0]
     have c4:=QeC (j:=(nth s.runs n).job)
     cases hj:Qau (nth s.runs n).job with
     | false=>
      rw [hj] at c4
      repeat' (first|refine zsr ?_|(refine zhm fun hb=>?_;try exact zab)|refine zg2 ?_ ?_|refine zln fun _=>?_|refine zop ?_|refine kc (c4) rfl rfl ?_|fail)
      show AWp _ _ _ _
      refine Qac ?_
      apply Qab
      exact zm () [] trivial zae zae zae
     | true=>
      rw [hj] at c4
      obtain ⟨k4,k5⟩:=Qcg hj
      repeat' (first|refine zsr ?_|(refine zhm fun hb=>?_;try exact zab)|refine zg2 ?_ ?_|refine zln fun _=>?_|refine zon ?_|refine kc (c4) rfl rfl ?_|refine kc (QaX) rfl rfl ?_|fail)
      all_goals first
       | (exfalso;have:=QdN.2 (⟨hj,by omega,by omega,by omega⟩:Qau (nth s.runs n).job=true∧_);rw [hb0] at this;cases this;done)
       | skip
      any_goals
       show AWp _ _ _ _
       refine Qac ?_
       apply Qab
       refine zm () [] trivial ?_ ?_ ?_
       repeat'(first|apply And.intro|exact ze0|refine ze1 ?_|refine zei ?_ ?_|exact rfl|trivial)
       all_goals exact Stop.mk rfl
    | true=>
     obtain ⟨k1,k2,k3⟩:=QdN.1 hb0
     obtain ⟨k4,k5⟩:=Qcg k1
     have c4:=QeC (j:=(nth s.runs n).job)
     rw [k1] at c4
     have c5:=Qvj (j:=(nth s.runs n).job) (a:=s.now) (b:=(nth s.runs n).at'+(nth s.runs n).job.wall) hg.ok (hs.rno n hn)
     cases hq:resO r (nth s.runs n).job s.now ((nth s.runs n).at'+(nth s.runs n).job.wall) (nth s.runs n).nodes with
     | none=>
      rw [hq] at c5
      rw [QsD hg hn hq]
      repeat' (first|refine zsr ?_|(refine zhm fun hb=>?_;try exact zab)|refine zg2 ?_ ?_|refine zln fun _=>?_|refine zon ?_|refine kc (c4) rfl rfl ?_|refine kc (QaX) rfl rfl ?_|(refine km [] (c5) rfl rfl (fun i hi=>?_);(try dsimp only at hi))|fail)
      show AWp _ _ _ _
      refine Qac ?_
      apply Qab
      exact zm () [] trivial zae zae zae
     | some r'=>
      rw [hq] at c5
      have hst:=Qwp hg hn hb0 hq
      repeat' (first|refine zsr ?_|(refine zhm fun hb=>?_;try exact zab)|refine zg2 ?_ ?_|refine zln fun _=>?_|refine zon ?_|refine kc (c4) rfl rfl ?_|refine kc (QaX) rfl rfl ?_|(refine km [] (c5) rfl rfl (fun i hi=>?_);(try dsimp only at hi))|fail)
      refine ⟨(n+1,r'),hst,by dsimp only;omega,?_⟩
      exact ⟨rfl,zae,zae,rfl⟩
   ·rw [Qwj hg hn]
    repeat' (first|refine zsr ?_|(refine zhm fun hb=>?_;try exact zab)|refine zg2 ?_ ?_|refine zln fun _=>?_|refine zop ?_|fail)
    show AWp _ _ _ _
    refine Qac ?_
    apply Qab
    exact zm () [] trivial zae zae zae
 ·rw [Qko hB]
  repeat' (first|refine zsr ?_|(refine zhm fun hb=>?_;try exact zab)|refine zg2 ?_ ?_|refine zln fun _=>?_|refine zop ?_|refine kc (c1) rfl rfl ?_|refine kc (c2) rfl rfl ?_|refine kc (c3) rfl rfl ?_|fail)
  all_goals first
   | (exfalso;exact hB ⟨Qbz.1 (by assumption),by omega,by assumption,by omega⟩)
   | skip
  any_goals
   show AWp _ _ _ _
   refine Qac ?_
   apply Qab
   refine zm () [] trivial ?_ ?_ ?_
   repeat'(first|apply And.intro|exact ze0|refine ze1 ?_|refine zei ?_ ?_|exact rfl|trivial)
   all_goals exact Stop.mk rfl
end Go.Proofs.YtelbahebpmkfjaaGreat
