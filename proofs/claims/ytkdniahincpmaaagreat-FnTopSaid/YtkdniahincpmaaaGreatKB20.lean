/-
  The empty room, both.
-/
import Derived.Test.YtkdniahincpmaaaGreatKB18
import Derived.Test.YtkdniahincpmaaaGreatKGlA
set_option maxRecDepth 100000
set_option maxHeartbeats 16000000
namespace Go.Proofs.YtkdniahincpmaaaGreat
open Go Go.RowKit Tryz
section
attribute [local irreducible] AWp QI OpOk ACalls ChA QsOk MCalls EnC PY

def XV(l:List Qax):List (List Pt):=l.map fun n=>[⟨0,n.cap⟩]
theorem Qal{l:List Qax}{n:Nat}(h:n<l.length):XV (l.take (n+1))=XV (l.take n)++[[⟨0,(nth l n).cap⟩]]:=by
 rw[Qo h]
 simp[XV]
theorem Qpu{t:QT}{up:List Bool}{lic:V3}(h:QW t)(hu:up.length=t.nodes.length)(hv:Qf lic=true):DC Tryz.prog 194 [YT t,zL (Qp up),vecA lic] [Wq (Jd t up lic)]:=by
 refine zMC func194 fun w0 Z O=>?_
 have h1:=h.len
 have h2:=h.nlen
 have i:=Qx up
 have l:=Qz t.nodes
 repeat'(first|(refine zhm fun hb=>?_;try exact zab)|(refine Qh 2 15 rfl ?_)|refine zUtp ?_|refine zg2 ?_ ?_|refine kmu (Qao (t:=t) (by omega) (by omega)) ?_|intro _)
 refine Qa (fun(k:Nat×List (List Pt))=>⟨44,[(5,.ptr 5 0),(6,.ptr 6 0),(7,.ptr 7 0),(18,zL (Qw t.nodes)),(19,zI (t.nodes.length:Nat)),(20,zI k.1)],[(5,.box 29 (vecC lic)),(6,.box 180 [.nil,.nil,.nil,.nil,.nil]),(7,.box 180 [zL (intE t.parents),zL (Qw t.nodes),zL (Qp up),slN 34 (Q8 k.2),.nil])]++slO 34 178 (Q8 k.2)⟩) (fun k=>k.1<=t.nodes.length/\k.2=XV (t.nodes.take k.1)) (fun k=>t.nodes.length-k.1) (0,[]) (by exact⟨Xad _,rfl⟩) ?_ ?_
 ·exact zll
 ·rintro ⟨n,b⟩ ⟨j,e⟩
  dsimp only at j e ⊢
  have m:b.length=n:=by rw[e,XV,XaB,Xah];omega
  have g:=QB b
  by_cases d:n<t.nodes.length
  ·have c:=Qal d
   rw[<-e]at c
   have f:=h.nodes n d
   cases b with
   | nil=>
    repeat'(first|(refine zhm fun hb=>?_;try exact zab)|(refine Qh 6 27 rfl ?_)|refine zUtp ?_|refine zg2 ?_ ?_|refine kc (Qa4 (v:=(nth t.nodes n).cap) f.2.2) rfl rfl ?_|intro _)
    refine⟨(n+1,[]++[[⟨0,(nth t.nodes n).cap⟩]]),⟨by omega,c.symm⟩,by omega,?_⟩
    exact zll
   | cons p0 o0=>
    repeat'(first|(refine zhm fun hb=>?_;try exact zab)|(refine Qh 6 27 rfl ?_)|refine zUtp ?_|refine zg2 ?_ ?_|refine kc (Qa4 (v:=(nth t.nodes n).cap) f.2.2) rfl rfl ?_|intro _)
    refine⟨(n+1,(p0::o0)++[[⟨0,(nth t.nodes n).cap⟩]]),⟨by omega,c.symm⟩,by omega,?_⟩
    refine zag ?_;exact zp (Wa (p0::o0) _)
  ·have a:b=(Jd t up lic).profs:=by rw[e,Xas (by omega)];rfl
   cases b with
   | nil=>
    repeat'(first|(refine zhm fun hb=>?_;try exact zab)|(refine Qh 9 39 rfl ?_)|refine zUrp ?_|refine zg2 ?_ ?_|refine kc (Qa4 (v:=lic) hv) rfl rfl ?_|intro _)
    show AWp _ _ _ _
    refine QA ?_
    apply Qu
    refine zm () [] trivial ?_ ?_ ?_
    repeat'(first|exact ze3|refine ze2 ?_ ?_|refine ze4 ?_|exact ze5|fail)
    all_goals exact zp (by first|rfl|(rw[<-a];done)|(rw[<-a];rfl))
   | cons p0 o0=>
    repeat'(first|(refine zhm fun hb=>?_;try exact zab)|(refine Qh 9 39 rfl ?_)|refine zUrp ?_|refine zg2 ?_ ?_|refine kc (Qa4 (v:=lic) hv) rfl rfl ?_|intro _)
    show AWp _ _ _ _
    refine Qr 34 rfl ?_
    refine QA ?_
    apply Qu
    refine zm () [] trivial ?_ ?_ ?_
    repeat'(first|exact ze3|refine ze2 ?_ ?_|refine ze4 ?_|exact ze5|fail)
    all_goals exact zp (by first|rfl|(rw[<-a];done)|(rw[<-a];rfl))
theorem Qjf{tp:QT}{up:List Bool}{li:List Pt}(h:Q4 ⟨tp,up,[],li⟩):DC Tryz.prog 271 [.agg [zL (intE tp.parents),zL (Qw tp.nodes),zL (Qp up),.nil,zL (ptE li)]] [Wq ⟨tp,up,[],li⟩]:=by
 refine zMC func271 fun w0 Z O=>?_
 have e:=h.small
 dsimp only at e
 have b:=Qx up
 have d:=Qz tp.nodes
 have c:=Qc tp.parents
 repeat'(first|(refine zhm fun hb=>?_;try exact zab)|(refine Qh 3 6 rfl ?_)|(refine Qh 3 14 rfl ?_)|(refine Qh 3 19 rfl ?_)|refine Qd ?_|(apply zch;exact zcg)|exact zhk|refine zg3 ?_ ?_|refine kmu (Vd (l:=li) (by omega)) ?_|intro _)
 refine Qa (fun(_:Unit)=>⟨42,[(2,.ptr 2 0),(3,.ptr 3 0),(27,.nil),(28,zI 0),(29,zI 0)],[(2,.box 180 [.nil,.nil,.nil,.nil,.nil]),(3,.box 180 [zL (intE tp.parents),zL (Qw tp.nodes),zL (Qp up),.nil,zL (ptE li)])]⟩) (fun _=>True) (fun _=>0) () trivial ?_ ?_
 ·exact zll
 ·intro _ _
  repeat'(first|(refine zhm fun hb=>?_;try exact zab)|refine QR ?_|(apply zch;exact zcg)|exact zhk|refine zg3 ?_ ?_|intro _)
  exact zDR
noncomputable def empO (s:Qb):Option Jm:=if(JG s.topo&&decide (s.up.length=s.topo.nodes.length)&&Qf s.lic)=true then some (Jd s.topo s.up s.lic)else none
theorem Qgs{s:Qb}(h:JG s.topo=false\/s.up.length≠s.topo.nodes.length\/Qf s.lic=false):empO s=none:=by
 unfold empO
 rw[if_neg]
 rcases h with h|h|h <;> simp[h]
theorem Qjx{s:Qb}(h1:QW s.topo)(h2:s.up.length=s.topo.nodes.length)(h3:Qf s.lic=true):empO s=some (Jd s.topo s.up s.lic):=by
 unfold empO
 rw[if_pos]
 simp[JY.2 h1,h2,h3]
theorem Qns{s:Qb}(hs:Qj 1000000000 s):DC Tryz.prog 210 [Qt s] [Wq ((empO s).getD zR),.d (.b (empO s).isSome)]:=by
 refine zMC func210 fun w0 Z O=>?_
 have x:=Qx s.up
 have z:=Qz s.topo.nodes
 have ac:=hs.up
 have aa:=hs.nod
 have q:=ZU (t:=s.topo) hs.par hs.nod
 have r:=J5 (v:=s.lic)
 cases l:JG s.topo with
 | false=>
  rw[l]at q
  rw[Qgs (.inl l)]
  repeat'(first|(refine zhm fun hb=>?_;try exact zab)|refine zUrp ?_|refine zg2 ?_ ?_|intro _)
  exact zDR
 | true=>
  rw[l]at q
  by_cases o:s.up.length=s.topo.nodes.length
  ·cases g:Qf s.lic with
   | false=>
    rw[g]at r
    rw[Qgs (.inr (.inr g))]
    repeat'(first|(refine zhm fun hb=>?_;try exact zab)|refine zUrp ?_|refine zg2 ?_ ?_|intro _)
    exact zDR
   | true=>
    rw[g]at r
    have j:=JY.1 l
    have h4:=j.len
    have h5:=j.nlen
    have f:=W3 j o g
    have p:(Jd s.topo s.up s.lic).profs=XV s.topo.nodes:=rfl
    rw[Qjx j o g]
    repeat'(first|(refine zhm fun hb=>?_;try exact zab)|refine zUtp ?_|refine zg2 ?_ ?_|intro _)
    refine Qa (fun(k:Nat×List (List Pt))=>⟨65,[(1,.ptr 1 0),(2,.ptr 2 0),(4,.ptr 4 0),(37,zL (Qw s.topo.nodes)),(38,zI (s.topo.nodes.length:Nat)),(39,zI k.1)],[(1,.box 34 (Q3 s)),(2,.box 180 [.nil,.nil,.nil,.nil,.nil]),(4,.box 180 [zL (intE s.topo.parents),zL (Qw s.topo.nodes),zL (Qp s.up),slN 53 (Q8 k.2),.nil])]++slO 53 178 (Q8 k.2)⟩) (fun k=>k.1<=s.topo.nodes.length/\k.2=XV (s.topo.nodes.take k.1)) (fun k=>s.topo.nodes.length-k.1) (0,[]) (by exact⟨Xad _,rfl⟩) ?_ ?_
    ·exact zll
    ·rintro ⟨n,e⟩ ⟨y,m⟩
     dsimp only at y m ⊢
     have ab:e.length=n:=by rw[m,XV,XaB,Xah];omega
     have w:=QB e
     by_cases i:n<s.topo.nodes.length
     ·have h:=Qal i
      rw[<-m]at h
      have u:=j.nodes n i
      cases e with
      | nil=>
       repeat'(first|(refine zhm fun hb=>?_;try exact zab)|(refine Qh 8 46 rfl ?_)|refine zUtp ?_|refine zg2 ?_ ?_|refine kc (Yn (v:=(nth s.topo.nodes n).cap) u.2.2) rfl rfl ?_|intro _)
       refine⟨(n+1,[]++[[⟨0,(nth s.topo.nodes n).cap⟩]]),⟨by omega,h.symm⟩,by omega,?_⟩
       exact zll
      | cons p0 o0=>
       repeat'(first|(refine zhm fun hb=>?_;try exact zab)|(refine Qh 8 46 rfl ?_)|refine zUtp ?_|refine zg2 ?_ ?_|refine kc (Yn (v:=(nth s.topo.nodes n).cap) u.2.2) rfl rfl ?_|intro _)
       refine⟨(n+1,(p0::o0)++[[⟨0,(nth s.topo.nodes n).cap⟩]]),⟨by omega,h.symm⟩,by omega,?_⟩
       refine zag ?_;exact zp (Wa (p0::o0) _)
     ·have a:XV s.topo.nodes=e:=by rw[m,Xas (by omega)]
      cases e with
      | nil=>
       have c:=Qjf (tp:=s.topo) (up:=s.up) (li:=[⟨0,s.lic⟩]) (by unfold Jd at f;rw[show(s.topo.nodes.map fun n=>[(⟨0,n.cap⟩:Pt)])=[] from a]at f;exact f)
       unfold Jd
       rw[show(s.topo.nodes.map fun n=>[(⟨0,n.cap⟩:Pt)])=[] from a]
       repeat'(first|(refine zhm fun hb=>?_;try exact zab)|(refine Qh 11 59 rfl ?_)|refine zUrp ?_|refine zg2 ?_ ?_|refine kc (Yn (v:=s.lic) g) rfl rfl ?_|refine kmu c ?_|intro _)
       exact zDR
      | cons p0 o0=>
       have c:=Qe4 f (by rw[p,a];exact Xco _)
       unfold Jd at c
       rw[show(s.topo.nodes.map fun n=>[(⟨0,n.cap⟩:Pt)])=p0::o0 from a]at c
       unfold Jd
       rw[show(s.topo.nodes.map fun n=>[(⟨0,n.cap⟩:Pt)])=p0::o0 from a]
       repeat'(first|(refine zhm fun hb=>?_;try exact zab)|(refine Qh 11 59 rfl ?_)|(refine Qh 11 53 rfl ?_)|refine zUrp ?_|refine zg2 ?_ ?_|refine kc (Yn (v:=s.lic) g) rfl rfl ?_|refine kmu c ?_|intro _)
       show AWp _ _ _ _
       refine Qr 64 rfl ?_
       exact zDR
  ·rw[Qgs (.inr (.inl o))]
   repeat'(first|(refine zhm fun hb=>?_;try exact zab)|refine zUrp ?_|refine zg2 ?_ ?_|intro _)
   any_goals
    show AWp _ _ _ _
    refine QA ?_
    apply Qu
    refine zm () [] trivial ?_ ?_ ?_
    repeat'(first|exact ze3|refine ze2 ?_ ?_|refine ze4 ?_|exact ze5|fail)
    all_goals exact zp rfl

theorem QhP{s:Qb}(h:Qda s):Jg s=Wt s.now s.runs (Jd s.topo s.up s.lic):=if_pos (pB_t.2 h)
theorem Qg8{s:Qb}(h:¬Qda s):Jg s=none:=if_neg (fun e=>h (pB_t.1 e))
structure GoP (s:Qb) (i:Nat) (r:Jm):Prop where
 le:i<=s.runs.length
 ok:Q4 r
 eq:Wt s.now (s.runs.drop i) r=Wt s.now s.runs (Jd s.topo s.up s.lic)
theorem Qpp{s:Qb}{i:Nat}{r:Jm}(h:GoP s i r)(hi:i<s.runs.length)(hb:runB s.now (nth s.runs i)=false):Wt s.now s.runs (Jd s.topo s.up s.lic)=none:=by
 rw[<-h.eq,Vo hi,Wt,if_neg (by rw[hb];decide)]
theorem Qqd{s:Qb}{i:Nat}{r:Jm}(h:GoP s i r)(hi:i<s.runs.length)(hq:resO r (nth s.runs i).job s.now ((nth s.runs i).at'+(nth s.runs i).job.wall) (nth s.runs i).nodes=none):Wt s.now s.runs (Jd s.topo s.up s.lic)=none:=by
 rw[<-h.eq,Vo hi,Wt,hq]
 split <;> rfl
theorem Qv8{s:Qb}{i:Nat}{r r':Jm}(h:GoP s i r)(hi:i<s.runs.length)(hb:runB s.now (nth s.runs i)=true)(hq:resO r (nth s.runs i).job s.now ((nth s.runs i).at'+(nth s.runs i).job.wall) (nth s.runs i).nodes=some r'):GoP s (i+1) r':=by
 refine⟨by omega,(XM hq).1,?_⟩
 rw[<-h.eq,Vo hi]
 conv=>rhs;rw[Wt,if_pos hb,hq]
theorem QwU{s:Qb}{i:Nat}{r:Jm}(h:GoP s i r)(hi:¬i<s.runs.length):Wt s.now s.runs (Jd s.topo s.up s.lic)=some r:=by
 rw[<-h.eq,Xbf (by omega)]
 rfl
theorem Zc{now:Int}{x:Run}:runB now x=true↔Qk x.job=true/\(0<=x.at'/\x.at'<=now)/\now+1<=x.at'+x.job.wall/\x.at'+x.job.wall<=1000000000:=by
 simp only[runB,Xab,JA,and_assoc]
theorem YB{j:Job}(h:Qk j=true):(1<=j.nodes/\j.nodes<=24)/\1<=j.wall/\j.wall<=1000000:=by
 simp only[Qk,Xab,JA]at h
 omega
theorem Qh5{r:Jm}{j j':Job}{a b:Int}{l:List Int}(h1:Qk j=true)(h2:Qk j'=true)(hn:j'.nodes=j.nodes)(hd:j'.need=j.need)(hl:j'.lic=j.lic):resO r j' a b l=resO r j a b l:=by
 have e:Xc r.topo j' l=Xc r.topo j l:=by
  rw[Xam]
  unfold Xc
  rw[pB_t,pB_t]
  exact⟨fun h=>⟨h.nodes,h.diff,by rw[h.num,hn]⟩,fun h=>⟨h.nodes,h.diff,by rw[h.num,hn]⟩⟩
 unfold resO
 rw[h1,h2,e,hd,hl]
theorem QbA{s:Qb}(hs:Qj 1000000000 s):DC Tryz.prog 110 [Qt s] (QaK (Jg s)):=by
 refine zMC func110 fun w0 Z O=>?_
 have z:=Qx s.up
 have ab:=Qz s.topo.nodes
 have ae:=hs.up
 have ac:=hs.nod
 have q:=Qbo (t:=s.topo) hs.par hs.nod
 have u:=Yy (v:=s.lic)
 have w:=Vc (x:=s.now)
 by_cases c:Qda s
 ·have o:=c.up
  have y:=c.now
  have h3:=c.topo.nlen
  have h4:=c.topo.len
  rw[JY.2 c.topo]at q
  rw[c.lic]at u
  rw[show inB s.now 0 1000000000=true by rw[JA];exact y]at w
  rw[QhP c]
  repeat'(first|(refine zhm fun hb=>?_;try exact zab)|refine zUtp ?_|refine zg2 ?_ ?_|refine kmu (Qpu (t:=s.topo) (up:=s.up) (lic:=s.lic) c.topo o c.lic) ?_|intro _)
  refine Qa (fun(k:Nat×Jm)=>⟨99,[(1,.ptr 1 0),(2,.ptr 2 0),(4,.ptr 4 0),(44,zL (runE s.runs)),(45,zI (s.runs.length:Nat)),(46,zI k.1)],[(1,.box 34 (Q3 s)),(2,.box 180 [.nil,.nil,.nil,.nil,.nil]),(4,.box 180 (Qb5 k.2))]⟩) (fun k=>GoP s k.1 k.2) (fun k=>s.runs.length-k.1) (0,Jd s.topo s.up s.lic) (by exact⟨Xad _,W3 c.topo o c.lic,rfl⟩) ?_ ?_
  ·exact zll
  ·rintro ⟨n,r⟩ e
   dsimp only at e ⊢
   have aa:=e.le
   have ad:=Qg s.runs
   by_cases f:n<s.runs.length
   ·cases d:runB s.now (nth s.runs n) with
    | false=>
     rw[Qpp e f d]
     have g:=XT (j:=(nth s.runs n).job)
     cases i:Qk (nth s.runs n).job with
     | false=>
      rw[i]at g
      repeat'(first|(refine zhm fun hb=>?_;try exact zab)|refine zUrp ?_|refine zg2 ?_ ?_|intro _)
      exact zDR
     | true=>
      rw[i]at g
      obtain⟨k4,k5⟩:=YB i
      repeat'(first|(refine zhm fun hb=>?_;try exact zab)|refine zUrn ?_|refine zg2 ?_ ?_|refine zqj QV ?_|intro _)
      all_goals first
       | (exfalso;have:=Zc.2 (⟨i,by omega,by omega,by omega⟩:Qk (nth s.runs n).job=true/\_);rw[d]at this;cases this;done)
       | skip
      any_goals
       show AWp _ _ _ _
       refine QA ?_
       apply Qu
       refine zm () [] trivial ?_ ?_ ?_
       repeat'(first|exact ze3|refine ze2 ?_ ?_|refine ze4 ?_|exact ze5|fail)
       all_goals exact zp rfl
    | true=>
     obtain⟨p,k2,k3⟩:=Zc.1 d
     obtain⟨k4,k5⟩:=YB p
     have g:=XT (j:=(nth s.runs n).job)
     rw[p]at g
     have h:=QvC (j:=(nth s.runs n).job) (a:=s.now) (b:=(nth s.runs n).at'+(nth s.runs n).job.wall) e.ok (hs.rno n f)
     cases l:resO r (nth s.runs n).job s.now ((nth s.runs n).at'+(nth s.runs n).job.wall) (nth s.runs n).nodes with
     | none=>
      rw[l]at h
      rw[Qqd e f l]
      repeat'(first|(refine zhm fun hb=>?_;try exact zab)|refine zUrn ?_|refine zg2 ?_ ?_|refine zqj QV ?_|refine kmu h ?_|intro _)
      exact zDR
     | some r'=>
      rw[l]at h
      have m:=Qv8 e f d l
      repeat'(first|(refine zhm fun hb=>?_;try exact zab)|refine zUrn ?_|refine zg2 ?_ ?_|refine zqj QV ?_|refine kmu h ?_|intro _)
      exact⟨(n+1,r'),m,by dsimp only;omega,zll⟩
   ·rw[QwU e f]
    repeat'(first|(refine zhm fun hb=>?_;try exact zab)|refine zUrp ?_|refine zg2 ?_ ?_|intro _)
    exact zDR
 ·rw[Qg8 c]
  repeat'(first|(refine zhm fun hb=>?_;try exact zab)|refine zUrp ?_|refine zg2 ?_ ?_|intro _)
  all_goals first
   | (exfalso;exact c ⟨JY.1 (by assumption),by omega,by assumption,by omega⟩)
   | skip
  any_goals
   show AWp _ _ _ _
   refine QA ?_
   apply Qu
   refine zm () [] trivial ?_ ?_ ?_
   repeat'(first|exact ze3|refine ze2 ?_ ?_|refine ze4 ?_|exact ze5|fail)
   all_goals exact zp rfl
end
end Go.Proofs.YtkdniahincpmaaaGreat
