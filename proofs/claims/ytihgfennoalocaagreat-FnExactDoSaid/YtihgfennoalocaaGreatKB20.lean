/-
  The empty room, both.
-/
import Derived.Test.YtihgfennoalocaaGreatKB7
import Derived.Test.YtihgfennoalocaaGreatKB18
import Derived.Test.YtihgfennoalocaaGreatKGlA
set_option maxRecDepth 100000
set_option maxHeartbeats 16000000
namespace Go.Proofs.YtihgfennoalocaaGreat
open Go Go.RowKit Tryz
section
attribute [local irreducible] AWp QJ OpOk ACalls ChA QsOk MCalls EnC PY

def ZO(l:List X6):List (List Pt):=l.map fun n=>[⟨0,n.cap⟩]
theorem Xc{l:List X6}{n:Nat}(h:n<l.length):ZO (l.take (n+1))=ZO (l.take n)++[[⟨0,(nth l n).cap⟩]]:=by
 rw[QI h]
 simp[ZO]
theorem QoP{t:QW}{up:List Bool}{lic:V3}(h:QY t)(hu:up.length=t.nodes.length)(hv:Qh lic=true):DC Tryz.prog 239 [Yy t,zL (Qq up),vecA lic] [Y7 (Jf t up lic)]:=by
 refine zMC func239 fun w0 Z O=>?_
 have h1:=h.len
 have h2:=h.nlen
 have hbl:=Qo up
 have hnl:=Qr t.nodes
 repeat'(first|(refine zhm fun hb=>?_;try exact zab)|(refine Qi 2 15 rfl ?_)|refine zUtp ?_|refine zg2 ?_ ?_|refine kmu (Xj (t:=t) (by omega) (by omega)) ?_|intro _|fail)
 refine Qa (fun(k:Nat×List (List Pt))=>⟨44,[(5,.ptr 5 0),(6,.ptr 6 0),(7,.ptr 7 0),(18,zL (Qz t.nodes)),(19,zI (t.nodes.length:Nat)),(20,zI k.1)],[(5,.box 44 (vecC lic)),(6,.box 209 [.nil,.nil,.nil,.nil,.nil]),(7,.box 209 [zL (intE t.parents),zL (Qz t.nodes),zL (Qq up),slN 34 (QZ k.2),.nil])]++slO 34 207 (QZ k.2)⟩) (fun k=>k.1<=t.nodes.length/\k.2=ZO (t.nodes.take k.1)) (fun k=>t.nodes.length-k.1) (0,[]) (by exact⟨Xab _,rfl⟩) ?_ ?_
 ·exact zll
 ·rintro ⟨n,out⟩ ⟨hn,ho⟩
  dsimp only at hn ho ⊢
  have hol:out.length=n:=by rw[ho,ZO,Xah,Xai];omega
  have hol2:=Qy out
  by_cases hn':n<t.nodes.length
  ·have hnx:=Xc hn'
   rw[<-ho]at hnx
   have hc:=h.nodes n hn'
   cases out with
   | nil=>
    repeat'(first|(refine zhm fun hb=>?_;try exact zab)|(refine Qi 6 27 rfl ?_)|refine zUtp ?_|refine zg2 ?_ ?_|refine kc (Qaf (v:=(nth t.nodes n).cap) hc.2.2) rfl rfl ?_|intro _|fail)
    refine⟨(n+1,[]++[[⟨0,(nth t.nodes n).cap⟩]]),⟨by omega,hnx.symm⟩,by omega,?_⟩
    exact zll
   | cons p0 o0=>
    repeat'(first|(refine zhm fun hb=>?_;try exact zab)|(refine Qi 6 27 rfl ?_)|refine zUtp ?_|refine zg2 ?_ ?_|refine kc (Qaf (v:=(nth t.nodes n).cap) hc.2.2) rfl rfl ?_|intro _|fail)
    refine⟨(n+1,(p0::o0)++[[⟨0,(nth t.nodes n).cap⟩]]),⟨by omega,hnx.symm⟩,by omega,?_⟩
    refine zag ?_;exact zp (YV (p0::o0) _)
  ·have hall:out=(Jf t up lic).profs:=by rw[ho,Xaz (by omega)];rfl
   cases out with
   | nil=>
    repeat'(first|(refine zhm fun hb=>?_;try exact zab)|(refine Qi 9 39 rfl ?_)|refine zUrp ?_|refine zg2 ?_ ?_|refine kc (Qaf (v:=lic) hv) rfl rfl ?_|intro _|fail)
    show AWp _ _ _ _
    refine QD ?_
    apply Qt
    refine zm () [] trivial ?_ ?_ ?_
    repeat'(first|exact ze3|refine ze2 ?_ ?_|refine ze4 ?_|exact ze5|fail)
    all_goals exact zp (by first|rfl|(rw[<-hall];done)|(rw[<-hall];rfl))
   | cons p0 o0=>
    repeat'(first|(refine zhm fun hb=>?_;try exact zab)|(refine Qi 9 39 rfl ?_)|refine zUrp ?_|refine zg2 ?_ ?_|refine kc (Qaf (v:=lic) hv) rfl rfl ?_|intro _|fail)
    show AWp _ _ _ _
    refine Qs 34 rfl ?_
    refine QD ?_
    apply Qt
    refine zm () [] trivial ?_ ?_ ?_
    repeat'(first|exact ze3|refine ze2 ?_ ?_|refine ze4 ?_|exact ze5|fail)
    all_goals exact zp (by first|rfl|(rw[<-hall];done)|(rw[<-hall];rfl))
theorem Qho{tp:QW}{up:List Bool}{li:List Pt}(h:Q5 ⟨tp,up,[],li⟩):DC Tryz.prog 265 [.agg [zL (intE tp.parents),zL (Qz tp.nodes),zL (Qq up),.nil,zL (ptE li)]] [Y7 ⟨tp,up,[],li⟩]:=by
 refine zMC func265 fun w0 Z O=>?_
 have hs:=h.small
 dsimp only at hs
 have hbl:=Qo up
 have hnl:=Qr tp.nodes
 have hil:=Qb tp.parents
 repeat'(first|(refine zhm fun hb=>?_;try exact zab)|(refine Qi 3 6 rfl ?_)|(refine Qi 3 14 rfl ?_)|(refine Qi 3 19 rfl ?_)|refine Qe ?_|(apply zch;exact zcg)|exact zhk|refine zg3 ?_ ?_|refine kmu (Wt (l:=li) (by omega)) ?_|intro _|fail)
 refine Qa (fun(_:Unit)=>⟨42,[(2,.ptr 2 0),(3,.ptr 3 0),(27,.nil),(28,zI 0),(29,zI 0)],[(2,.box 209 [.nil,.nil,.nil,.nil,.nil]),(3,.box 209 [zL (intE tp.parents),zL (Qz tp.nodes),zL (Qq up),.nil,zL (ptE li)])]⟩) (fun _=>True) (fun _=>0) () trivial ?_ ?_
 ·exact zll
 ·intro _ _
  repeat'(first|(refine zhm fun hb=>?_;try exact zab)|refine Q7 ?_|(apply zch;exact zcg)|exact zhk|refine zg3 ?_ ?_|intro _|fail)
  exact zDR
noncomputable def empO (s:Qd):Option Jy:=if(Jq s.topo&&decide (s.up.length=s.topo.nodes.length)&&Qh s.lic)=true then some (Jf s.topo s.up s.lic)else none
theorem Qe4{s:Qd}(h:Jq s.topo=false\/s.up.length≠s.topo.nodes.length\/Qh s.lic=false):empO s=none:=by
 unfold empO
 rw[if_neg]
 rcases h with h|h|h <;> simp[h]
theorem Qg2{s:Qd}(h1:QY s.topo)(h2:s.up.length=s.topo.nodes.length)(h3:Qh s.lic=true):empO s=some (Jf s.topo s.up s.lic):=by
 unfold empO
 rw[if_pos]
 simp[JT.2 h1,h2,h3]
theorem Qlr{s:Qd}(hs:Ql 1000000000 s):DC Tryz.prog 223 [Qx s] [Y7 ((empO s).getD zR),.d (.b (empO s).isSome)]:=by
 refine zMC func223 fun w0 Z O=>?_
 have hbl:=Qo s.up
 have hnl:=Qr s.topo.nodes
 have hup:=hs.up
 have hno:=hs.nod
 have c1:=Zb (t:=s.topo) hs.par hs.nod
 have c2:=JV (v:=s.lic)
 cases h1:Jq s.topo with
 | false=>
  rw[h1]at c1
  rw[Qe4 (.inl h1)]
  repeat'(first|(refine zhm fun hb=>?_;try exact zab)|refine zUrp ?_|refine zg2 ?_ ?_|intro _|fail)
  exact zDR
 | true=>
  rw[h1]at c1
  by_cases h2:s.up.length=s.topo.nodes.length
  ·cases h3:Qh s.lic with
   | false=>
    rw[h3]at c2
    rw[Qe4 (.inr (.inr h3))]
    repeat'(first|(refine zhm fun hb=>?_;try exact zab)|refine zUrp ?_|refine zg2 ?_ ?_|intro _|fail)
    exact zDR
   | true=>
    rw[h3]at c2
    have ht:=JT.1 h1
    have h4:=ht.len
    have h5:=ht.nlen
    have hok:=Vi ht h2 h3
    have hen:(Jf s.topo s.up s.lic).profs=ZO s.topo.nodes:=rfl
    rw[Qg2 ht h2 h3]
    repeat'(first|(refine zhm fun hb=>?_;try exact zab)|refine zUtp ?_|refine zg2 ?_ ?_|intro _|fail)
    refine Qa (fun(k:Nat×List (List Pt))=>⟨65,[(1,.ptr 1 0),(2,.ptr 2 0),(4,.ptr 4 0),(37,zL (Qz s.topo.nodes)),(38,zI (s.topo.nodes.length:Nat)),(39,zI k.1)],[(1,.box 49 (JB s)),(2,.box 209 [.nil,.nil,.nil,.nil,.nil]),(4,.box 209 [zL (intE s.topo.parents),zL (Qz s.topo.nodes),zL (Qq s.up),slN 53 (QZ k.2),.nil])]++slO 53 207 (QZ k.2)⟩) (fun k=>k.1<=s.topo.nodes.length/\k.2=ZO (s.topo.nodes.take k.1)) (fun k=>s.topo.nodes.length-k.1) (0,[]) (by exact⟨Xab _,rfl⟩) ?_ ?_
    ·exact zll
    ·rintro ⟨n,out⟩ ⟨hn,ho⟩
     dsimp only at hn ho ⊢
     have hol:out.length=n:=by rw[ho,ZO,Xah,Xai];omega
     have hol2:=Qy out
     by_cases hn':n<s.topo.nodes.length
     ·have hnx:=Xc hn'
      rw[<-ho]at hnx
      have hc:=ht.nodes n hn'
      cases out with
      | nil=>
       repeat'(first|(refine zhm fun hb=>?_;try exact zab)|(refine Qi 8 46 rfl ?_)|refine zUtp ?_|refine zg2 ?_ ?_|refine kc (J9 (v:=(nth s.topo.nodes n).cap) hc.2.2) rfl rfl ?_|intro _|fail)
       refine⟨(n+1,[]++[[⟨0,(nth s.topo.nodes n).cap⟩]]),⟨by omega,hnx.symm⟩,by omega,?_⟩
       exact zll
      | cons p0 o0=>
       repeat'(first|(refine zhm fun hb=>?_;try exact zab)|(refine Qi 8 46 rfl ?_)|refine zUtp ?_|refine zg2 ?_ ?_|refine kc (J9 (v:=(nth s.topo.nodes n).cap) hc.2.2) rfl rfl ?_|intro _|fail)
       refine⟨(n+1,(p0::o0)++[[⟨0,(nth s.topo.nodes n).cap⟩]]),⟨by omega,hnx.symm⟩,by omega,?_⟩
       refine zag ?_;exact zp (YV (p0::o0) _)
     ·have hall:ZO s.topo.nodes=out:=by rw[ho,Xaz (by omega)]
      cases out with
      | nil=>
       have hcp:=Qho (tp:=s.topo) (up:=s.up) (li:=[⟨0,s.lic⟩]) (by unfold Jf at hok;rw[show(s.topo.nodes.map fun n=>[(⟨0,n.cap⟩:Pt)])=[] from hall]at hok;exact hok)
       unfold Jf
       rw[show(s.topo.nodes.map fun n=>[(⟨0,n.cap⟩:Pt)])=[] from hall]
       repeat'(first|(refine zhm fun hb=>?_;try exact zab)|(refine Qi 11 59 rfl ?_)|refine zUrp ?_|refine zg2 ?_ ?_|refine kc (J9 (v:=s.lic) h3) rfl rfl ?_|refine kmu hcp ?_|intro _|fail)
       exact zDR
      | cons p0 o0=>
       have hcp:=Qdr hok (by rw[hen,hall];exact Xcm _)
       unfold Jf at hcp
       rw[show(s.topo.nodes.map fun n=>[(⟨0,n.cap⟩:Pt)])=p0::o0 from hall]at hcp
       unfold Jf
       rw[show(s.topo.nodes.map fun n=>[(⟨0,n.cap⟩:Pt)])=p0::o0 from hall]
       repeat'(first|(refine zhm fun hb=>?_;try exact zab)|(refine Qi 11 59 rfl ?_)|(refine Qi 11 53 rfl ?_)|refine zUrp ?_|refine zg2 ?_ ?_|refine kc (J9 (v:=s.lic) h3) rfl rfl ?_|refine kmu hcp ?_|intro _|fail)
       show AWp _ _ _ _
       refine Qs 64 rfl ?_
       exact zDR
  ·rw[Qe4 (.inr (.inl h2))]
   repeat'(first|(refine zhm fun hb=>?_;try exact zab)|refine zUrp ?_|refine zg2 ?_ ?_|intro _|fail)
   any_goals
    show AWp _ _ _ _
    refine QD ?_
    apply Qt
    refine zm () [] trivial ?_ ?_ ?_
    repeat'(first|exact ze3|refine ze2 ?_ ?_|refine ze4 ?_|exact ze5|fail)
    all_goals exact zp rfl

theorem QfQ{s:Qd}(h:QgC s):JG s=W4 s.now s.runs (Jf s.topo s.up s.lic):=if_pos (pB_t.2 h)
theorem Qgh{s:Qd}(h:¬QgC s):JG s=none:=if_neg (fun e=>h (pB_t.1 e))
structure GoP (s:Qd) (i:Nat) (r:Jy):Prop where
 le:i<=s.runs.length
 ok:Q5 r
 eq:W4 s.now (s.runs.drop i) r=W4 s.now s.runs (Jf s.topo s.up s.lic)
theorem QoG{s:Qd}{i:Nat}{r:Jy}(h:GoP s i r)(hi:i<s.runs.length)(hb:runB s.now (nth s.runs i)=false):W4 s.now s.runs (Jf s.topo s.up s.lic)=none:=by
 rw[<-h.eq,Vh hi,W4,if_neg (by rw[hb];decide)]
theorem QoC{s:Qd}{i:Nat}{r:Jy}(h:GoP s i r)(hi:i<s.runs.length)(hq:resO r (nth s.runs i).job s.now ((nth s.runs i).at'+(nth s.runs i).job.wall) (nth s.runs i).nodes=none):W4 s.now s.runs (Jf s.topo s.up s.lic)=none:=by
 rw[<-h.eq,Vh hi,W4,hq]
 split <;> rfl
theorem QtM{s:Qd}{i:Nat}{r r':Jy}(h:GoP s i r)(hi:i<s.runs.length)(hb:runB s.now (nth s.runs i)=true)(hq:resO r (nth s.runs i).job s.now ((nth s.runs i).at'+(nth s.runs i).job.wall) (nth s.runs i).nodes=some r'):GoP s (i+1) r':=by
 refine⟨by omega,(Qjw hq).1,?_⟩
 rw[<-h.eq,Vh hi]
 conv=>rhs;rw[W4,if_pos hb,hq]
theorem Qtx{s:Qd}{i:Nat}{r:Jy}(h:GoP s i r)(hi:¬i<s.runs.length):W4 s.now s.runs (Jf s.topo s.up s.lic)=some r:=by
 rw[<-h.eq,Xa7 (by omega)]
 rfl
theorem Vn{now:Int}{x:Run}:runB now x=true↔Qu x.job=true/\(0<=x.at'/\x.at'<=now)/\now+1<=x.at'+x.job.wall/\x.at'+x.job.wall<=1000000000:=by
 simp only[runB,Xaf,Yr,and_assoc]
theorem YA{j:Job}(h:Qu j=true):(1<=j.nodes/\j.nodes<=24)/\1<=j.wall/\j.wall<=1000000:=by
 simp only[Qu,Xaf,Yr]at h
 omega
theorem QgT{r:Jy}{j j':Job}{a b:Int}{l:List Int}(h1:Qu j=true)(h2:Qu j'=true)(hn:j'.nodes=j.nodes)(hd:j'.need=j.need)(hl:j'.lic=j.lic):resO r j' a b l=resO r j a b l:=by
 have e:Zn r.topo j' l=Zn r.topo j l:=by
  rw[Xan]
  unfold Zn
  rw[pB_t,pB_t]
  exact⟨fun h=>⟨h.nodes,h.diff,by rw[h.num,hn]⟩,fun h=>⟨h.nodes,h.diff,by rw[h.num,hn]⟩⟩
 unfold resO
 rw[h1,h2,e,hd,hl]
theorem Qcv{s:Qd}(hs:Ql 1000000000 s):DC Tryz.prog 190 [Qx s] (XW (JG s)):=by
 refine zMC func190 fun w0 Z O=>?_
 have hbl:=Qo s.up
 have hnl:=Qr s.topo.nodes
 have hup:=hs.up
 have hno:=hs.nod
 have c1:=Qcf (t:=s.topo) hs.par hs.nod
 have c2:=Yh (v:=s.lic)
 have c3:=Wz (x:=s.now)
 by_cases hB:QgC s
 ·have h1:=hB.up
  have h2:=hB.now
  have h3:=hB.topo.nlen
  have h4:=hB.topo.len
  rw[JT.2 hB.topo]at c1
  rw[hB.lic]at c2
  rw[show inB s.now 0 1000000000=true by rw[Yr];exact h2]at c3
  rw[QfQ hB]
  repeat'(first|(refine zhm fun hb=>?_;try exact zab)|refine zUtp ?_|refine zg2 ?_ ?_|refine kmu (QoP (t:=s.topo) (up:=s.up) (lic:=s.lic) hB.topo h1 hB.lic) ?_|intro _|fail)
  refine Qa (fun(k:Nat×Jy)=>⟨99,[(1,.ptr 1 0),(2,.ptr 2 0),(4,.ptr 4 0),(44,zL (runE s.runs)),(45,zI (s.runs.length:Nat)),(46,zI k.1)],[(1,.box 49 (JB s)),(2,.box 209 [.nil,.nil,.nil,.nil,.nil]),(4,.box 209 (Qa9 k.2))]⟩) (fun k=>GoP s k.1 k.2) (fun k=>s.runs.length-k.1) (0,Jf s.topo s.up s.lic) (by exact⟨Xab _,Vi hB.topo h1 hB.lic,rfl⟩) ?_ ?_
  ·exact zll
  ·rintro ⟨n,r⟩ hg
   dsimp only at hg ⊢
   have hle:=hg.le
   have hrl:=Qf s.runs
   by_cases hn:n<s.runs.length
   ·cases hb0:runB s.now (nth s.runs n) with
    | false=>
     rw[QoG hg hn hb0]
     have c4:=ZM (j:=(nth s.runs n).job)
     cases hj:Qu (nth s.runs n).job with
     | false=>
      rw[hj]at c4
      repeat'(first|(refine zhm fun hb=>?_;try exact zab)|refine zUrp ?_|refine zg2 ?_ ?_|intro _|fail)
      exact zDR
     | true=>
      rw[hj]at c4
      obtain⟨k4,k5⟩:=YA hj
      repeat'(first|(refine zhm fun hb=>?_;try exact zab)|refine zUrn ?_|refine zg2 ?_ ?_|refine zqj QX ?_|intro _|fail)
      all_goals first
       | (exfalso;have:=Vn.2 (⟨hj,by omega,by omega,by omega⟩:Qu (nth s.runs n).job=true/\_);rw[hb0]at this;cases this;done)
       | skip
      any_goals
       show AWp _ _ _ _
       refine QD ?_
       apply Qt
       refine zm () [] trivial ?_ ?_ ?_
       repeat'(first|exact ze3|refine ze2 ?_ ?_|refine ze4 ?_|exact ze5|fail)
       all_goals exact zp rfl
    | true=>
     obtain⟨k1,k2,k3⟩:=Vn.1 hb0
     obtain⟨k4,k5⟩:=YA k1
     have c4:=ZM (j:=(nth s.runs n).job)
     rw[k1]at c4
     have c5:=QsX (j:=(nth s.runs n).job) (a:=s.now) (b:=(nth s.runs n).at'+(nth s.runs n).job.wall) hg.ok (hs.rno n hn)
     cases hq:resO r (nth s.runs n).job s.now ((nth s.runs n).at'+(nth s.runs n).job.wall) (nth s.runs n).nodes with
     | none=>
      rw[hq]at c5
      rw[QoC hg hn hq]
      repeat'(first|(refine zhm fun hb=>?_;try exact zab)|refine zUrn ?_|refine zg2 ?_ ?_|refine zqj QX ?_|refine kmu c5 ?_|intro _|fail)
      exact zDR
     | some r'=>
      rw[hq]at c5
      have hst:=QtM hg hn hb0 hq
      repeat'(first|(refine zhm fun hb=>?_;try exact zab)|refine zUrn ?_|refine zg2 ?_ ?_|refine zqj QX ?_|refine kmu c5 ?_|intro _|fail)
      exact⟨(n+1,r'),hst,by dsimp only;omega,zll⟩
   ·rw[Qtx hg hn]
    repeat'(first|(refine zhm fun hb=>?_;try exact zab)|refine zUrp ?_|refine zg2 ?_ ?_|intro _|fail)
    exact zDR
 ·rw[Qgh hB]
  repeat'(first|(refine zhm fun hb=>?_;try exact zab)|refine zUrp ?_|refine zg2 ?_ ?_|intro _|fail)
  all_goals first
   | (exfalso;exact hB ⟨JT.1 (by assumption),by omega,by assumption,by omega⟩)
   | skip
  any_goals
   show AWp _ _ _ _
   refine QD ?_
   apply Qt
   refine zm () [] trivial ?_ ?_ ?_
   repeat'(first|exact ze3|refine ze2 ?_ ?_|refine ze4 ?_|exact ze5|fail)
   all_goals exact zp rfl
end
end Go.Proofs.YtihgfennoalocaaGreat
