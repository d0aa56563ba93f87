/-
  The empty room, both.
-/
import Derived.Test.YtkdniahincpmaaaGreatQB17
import Derived.Test.YtkdniahincpmaaaGreatQGlA
set_option maxRecDepth 100000
set_option maxHeartbeats 16000000
namespace Go.Proofs.YtkdniahincpmaaaGreat
open Go Go.RowKit Tryz
section
attribute [local irreducible] AWp QM OpOk ACalls ChA QsOk MCalls EnC PY

def XI(l:List Qar):List (List Pt):=l.map fun n=>[⟨0,n.cap⟩]
theorem XY{l:List Qar}{n:Nat}(h:n<l.length):XI (l.take (n+1))=XI (l.take n)++[[⟨0,(nth l n).cap⟩]]:=by
 rw[QF h]
 simp[XI]
theorem QpH{t:QX}{up:List Bool}{lic:V3}(h:Q3 t)(hu:up.length=t.nodes.length)(hv:Qh lic=true):DC Tryz.prog 194 [YW t,zL (Qk up),vecA lic] [Ws (Jf t up lic)]:=by
 refine zMC func194 fun w0 Z O=>?_
 have h1:=h.len
 have h2:=h.nlen
 have i:=Qq up
 have l:=Qw t.nodes
 repeat'(first|(refine zhm fun hb=>?_;try exact zab)|(refine Qi 2 15 rfl ?_)|refine zUtp ?_|refine zg2 ?_ ?_|refine kmu (XS (t:=t) (by omega) (by omega)) ?_|intro _)
 refine Qa (fun(k:Nat×List (List Pt))=>⟨44,[(5,.ptr 5 0),(6,.ptr 6 0),(7,.ptr 7 0),(18,zL (Qr t.nodes)),(19,zI (t.nodes.length:Nat)),(20,zI k.1)],[(5,.box 29 (vecC lic)),(6,.box 180 [.nil,.nil,.nil,.nil,.nil]),(7,.box 180 [zL (intE t.parents),zL (Qr t.nodes),zL (Qk up),slN 34 (Q7 k.2),.nil])]++slO 34 178 (Q7 k.2)⟩) (fun k=>k.1<=t.nodes.length/\k.2=XI (t.nodes.take k.1)) (fun k=>t.nodes.length-k.1) (0,[]) (by exact⟨Xae _,rfl⟩) ?_ ?_
 ·exact zll
 ·rintro ⟨n,b⟩ ⟨j,e⟩
  dsimp only at j e ⊢
  have m:b.length=n:=by rw[e,XI,Xar,Xah];omega
  have g:=QB b
  by_cases d:n<t.nodes.length
  ·have c:=XY d
   rw[<-e]at c
   have f:=h.nodes n d
   cases b with
   | nil=>
    repeat'(first|(refine zhm fun hb=>?_;try exact zab)|(refine Qi 6 27 rfl ?_)|refine zUtp ?_|refine zg2 ?_ ?_|refine kc (QaT (v:=(nth t.nodes n).cap) f.2.2) rfl rfl ?_|intro _)
    refine⟨(n+1,[]++[[⟨0,(nth t.nodes n).cap⟩]]),⟨by omega,c.symm⟩,by omega,?_⟩
    exact zll
   | cons p0 o0=>
    repeat'(first|(refine zhm fun hb=>?_;try exact zab)|(refine Qi 6 27 rfl ?_)|refine zUtp ?_|refine zg2 ?_ ?_|refine kc (QaT (v:=(nth t.nodes n).cap) f.2.2) rfl rfl ?_|intro _)
    refine⟨(n+1,(p0::o0)++[[⟨0,(nth t.nodes n).cap⟩]]),⟨by omega,c.symm⟩,by omega,?_⟩
    refine zag ?_;exact zp (Wd (p0::o0) _)
  ·have a:b=(Jf t up lic).profs:=by rw[e,Xay (by omega)];rfl
   cases b with
   | nil=>
    repeat'(first|(refine zhm fun hb=>?_;try exact zab)|(refine Qi 9 39 rfl ?_)|refine zUrp ?_|refine zg2 ?_ ?_|refine kc (QaT (v:=lic) hv) rfl rfl ?_|intro _)
    show AWp _ _ _ _
    refine QA ?_
    apply Qs
    refine zm () [] trivial ?_ ?_ ?_
    repeat'(first|exact ze3|refine ze2 ?_ ?_|refine ze4 ?_|exact ze5|fail)
    all_goals exact zp (by first|rfl|(rw[<-a];done)|(rw[<-a];rfl))
   | cons p0 o0=>
    repeat'(first|(refine zhm fun hb=>?_;try exact zab)|(refine Qi 9 39 rfl ?_)|refine zUrp ?_|refine zg2 ?_ ?_|refine kc (QaT (v:=lic) hv) rfl rfl ?_|intro _)
    show AWp _ _ _ _
    refine Qp 34 rfl ?_
    refine QA ?_
    apply Qs
    refine zm () [] trivial ?_ ?_ ?_
    repeat'(first|exact ze3|refine ze2 ?_ ?_|refine ze4 ?_|exact ze5|fail)
    all_goals exact zp (by first|rfl|(rw[<-a];done)|(rw[<-a];rfl))
theorem Qiw{tp:QX}{up:List Bool}{li:List Pt}(h:Q6 ⟨tp,up,[],li⟩):DC Tryz.prog 271 [.agg [zL (intE tp.parents),zL (Qr tp.nodes),zL (Qk up),.nil,zL (ptE li)]] [Ws ⟨tp,up,[],li⟩]:=by
 refine zMC func271 fun w0 Z O=>?_
 have e:=h.small
 dsimp only at e
 have b:=Qq up
 have d:=Qw tp.nodes
 have c:=Qc tp.parents
 repeat'(first|(refine zhm fun hb=>?_;try exact zab)|(refine Qi 3 6 rfl ?_)|(refine Qi 3 14 rfl ?_)|(refine Qi 3 19 rfl ?_)|refine Qd ?_|(apply zch;exact zcg)|exact zhk|refine zg3 ?_ ?_|refine kmu (WZ (l:=li) (by omega)) ?_|intro _)
 refine Qa (fun(_:Unit)=>⟨42,[(2,.ptr 2 0),(3,.ptr 3 0),(27,.nil),(28,zI 0),(29,zI 0)],[(2,.box 180 [.nil,.nil,.nil,.nil,.nil]),(3,.box 180 [zL (intE tp.parents),zL (Qr tp.nodes),zL (Qk up),.nil,zL (ptE li)])]⟩) (fun _=>True) (fun _=>0) () trivial ?_ ?_
 ·exact zll
 ·intro _ _
  repeat'(first|(refine zhm fun hb=>?_;try exact zab)|refine Q2 ?_|(apply zch;exact zcg)|exact zhk|refine zg3 ?_ ?_|intro _)
  exact zDR
noncomputable def empO (s:Qb):Option Jn:=if(JB s.topo&&decide (s.up.length=s.topo.nodes.length)&&Qh s.lic)=true then some (Jf s.topo s.up s.lic)else none
theorem Qgf{s:Qb}(h:JB s.topo=false\/s.up.length≠s.topo.nodes.length\/Qh s.lic=false):empO s=none:=by
 unfold empO
 rw[if_neg]
 rcases h with h|h|h <;> simp[h]
theorem Qit{s:Qb}(h1:Q3 s.topo)(h2:s.up.length=s.topo.nodes.length)(h3:Qh s.lic=true):empO s=some (Jf s.topo s.up s.lic):=by
 unfold empO
 rw[if_pos]
 simp[J8.2 h1,h2,h3]
theorem QmW{s:Qb}(hs:Qo 1000000000 s):DC Tryz.prog 210 [Qz s] [Ws ((empO s).getD zR),.d (.b (empO s).isSome)]:=by
 refine zMC func210 fun w0 Z O=>?_
 have x:=Qq s.up
 have z:=Qw s.topo.nodes
 have ac:=hs.up
 have aa:=hs.nod
 have q:=ZW (t:=s.topo) hs.par hs.nod
 have r:=J9 (v:=s.lic)
 cases l:JB s.topo with
 | false=>
  rw[l]at q
  rw[Qgf (.inl l)]
  repeat'(first|(refine zhm fun hb=>?_;try exact zab)|refine zUrp ?_|refine zg2 ?_ ?_|intro _)
  exact zDR
 | true=>
  rw[l]at q
  by_cases o:s.up.length=s.topo.nodes.length
  ·cases g:Qh s.lic with
   | false=>
    rw[g]at r
    rw[Qgf (.inr (.inr g))]
    repeat'(first|(refine zhm fun hb=>?_;try exact zab)|refine zUrp ?_|refine zg2 ?_ ?_|intro _)
    exact zDR
   | true=>
    rw[g]at r
    have j:=J8.1 l
    have h4:=j.len
    have h5:=j.nlen
    have f:=WS j o g
    have p:(Jf s.topo s.up s.lic).profs=XI s.topo.nodes:=rfl
    rw[Qit j o g]
    repeat'(first|(refine zhm fun hb=>?_;try exact zab)|refine zUtp ?_|refine zg2 ?_ ?_|intro _)
    refine Qa (fun(k:Nat×List (List Pt))=>⟨65,[(1,.ptr 1 0),(2,.ptr 2 0),(4,.ptr 4 0),(37,zL (Qr s.topo.nodes)),(38,zI (s.topo.nodes.length:Nat)),(39,zI k.1)],[(1,.box 34 (JI s)),(2,.box 180 [.nil,.nil,.nil,.nil,.nil]),(4,.box 180 [zL (intE s.topo.parents),zL (Qr s.topo.nodes),zL (Qk s.up),slN 53 (Q7 k.2),.nil])]++slO 53 178 (Q7 k.2)⟩) (fun k=>k.1<=s.topo.nodes.length/\k.2=XI (s.topo.nodes.take k.1)) (fun k=>s.topo.nodes.length-k.1) (0,[]) (by exact⟨Xae _,rfl⟩) ?_ ?_
    ·exact zll
    ·rintro ⟨n,e⟩ ⟨y,m⟩
     dsimp only at y m ⊢
     have ab:e.length=n:=by rw[m,XI,Xar,Xah];omega
     have w:=QB e
     by_cases i:n<s.topo.nodes.length
     ·have h:=XY i
      rw[<-m]at h
      have u:=j.nodes n i
      cases e with
      | nil=>
       repeat'(first|(refine zhm fun hb=>?_;try exact zab)|(refine Qi 8 46 rfl ?_)|refine zUtp ?_|refine zg2 ?_ ?_|refine kc (Yn (v:=(nth s.topo.nodes n).cap) u.2.2) rfl rfl ?_|intro _)
       refine⟨(n+1,[]++[[⟨0,(nth s.topo.nodes n).cap⟩]]),⟨by omega,h.symm⟩,by omega,?_⟩
       exact zll
      | cons p0 o0=>
       repeat'(first|(refine zhm fun hb=>?_;try exact zab)|(refine Qi 8 46 rfl ?_)|refine zUtp ?_|refine zg2 ?_ ?_|refine kc (Yn (v:=(nth s.topo.nodes n).cap) u.2.2) rfl rfl ?_|intro _)
       refine⟨(n+1,(p0::o0)++[[⟨0,(nth s.topo.nodes n).cap⟩]]),⟨by omega,h.symm⟩,by omega,?_⟩
       refine zag ?_;exact zp (Wd (p0::o0) _)
     ·have a:XI s.topo.nodes=e:=by rw[m,Xay (by omega)]
      cases e with
      | nil=>
       have c:=Qiw (tp:=s.topo) (up:=s.up) (li:=[⟨0,s.lic⟩]) (by unfold Jf at f;rw[show(s.topo.nodes.map fun n=>[(⟨0,n.cap⟩:Pt)])=[] from a]at f;exact f)
       unfold Jf
       rw[show(s.topo.nodes.map fun n=>[(⟨0,n.cap⟩:Pt)])=[] from a]
       repeat'(first|(refine zhm fun hb=>?_;try exact zab)|(refine Qi 11 59 rfl ?_)|refine zUrp ?_|refine zg2 ?_ ?_|refine kc (Yn (v:=s.lic) g) rfl rfl ?_|refine kmu c ?_|intro _)
       exact zDR
      | cons p0 o0=>
       have c:=QeR f (by rw[p,a];exact Xcq _)
       unfold Jf at c
       rw[show(s.topo.nodes.map fun n=>[(⟨0,n.cap⟩:Pt)])=p0::o0 from a]at c
       unfold Jf
       rw[show(s.topo.nodes.map fun n=>[(⟨0,n.cap⟩:Pt)])=p0::o0 from a]
       repeat'(first|(refine zhm fun hb=>?_;try exact zab)|(refine Qi 11 59 rfl ?_)|(refine Qi 11 53 rfl ?_)|refine zUrp ?_|refine zg2 ?_ ?_|refine kc (Yn (v:=s.lic) g) rfl rfl ?_|refine kmu c ?_|intro _)
       show AWp _ _ _ _
       refine Qp 64 rfl ?_
       exact zDR
  ·rw[Qgf (.inr (.inl o))]
   repeat'(first|(refine zhm fun hb=>?_;try exact zab)|refine zUrp ?_|refine zg2 ?_ ?_|intro _)
   any_goals
    show AWp _ _ _ _
    refine QA ?_
    apply Qs
    refine zm () [] trivial ?_ ?_ ?_
    repeat'(first|exact ze3|refine ze2 ?_ ?_|refine ze4 ?_|exact ze5|fail)
    all_goals exact zp rfl

theorem Qg0{s:Qb}(h:Qfs s):Jr s=Ww s.now s.runs (Jf s.topo s.up s.lic):=if_pos (pB_t.2 h)
theorem Qg7{s:Qb}(h:¬Qfs s):Jr s=none:=if_neg (fun e=>h (pB_t.1 e))
structure GoP (s:Qb) (i:Nat) (r:Jn):Prop where
 le:i<=s.runs.length
 ok:Q6 r
 eq:Ww s.now (s.runs.drop i) r=Ww s.now s.runs (Jf s.topo s.up s.lic)
theorem Qp4{s:Qb}{i:Nat}{r:Jn}(h:GoP s i r)(hi:i<s.runs.length)(hb:runB s.now (nth s.runs i)=false):Ww s.now s.runs (Jf s.topo s.up s.lic)=none:=by
 rw[<-h.eq,VW hi,Ww,if_neg (by rw[hb];decide)]
theorem Qqn{s:Qb}{i:Nat}{r:Jn}(h:GoP s i r)(hi:i<s.runs.length)(hq:resO r (nth s.runs i).job s.now ((nth s.runs i).at'+(nth s.runs i).job.wall) (nth s.runs i).nodes=none):Ww s.now s.runs (Jf s.topo s.up s.lic)=none:=by
 rw[<-h.eq,VW hi,Ww,hq]
 split <;> rfl
theorem QwC{s:Qb}{i:Nat}{r r':Jn}(h:GoP s i r)(hi:i<s.runs.length)(hb:runB s.now (nth s.runs i)=true)(hq:resO r (nth s.runs i).job s.now ((nth s.runs i).at'+(nth s.runs i).job.wall) (nth s.runs i).nodes=some r'):GoP s (i+1) r':=by
 refine⟨by omega,(Xr hq).1,?_⟩
 rw[<-h.eq,VW hi]
 conv=>rhs;rw[Ww,if_pos hb,hq]
theorem QvG{s:Qb}{i:Nat}{r:Jn}(h:GoP s i r)(hi:¬i<s.runs.length):Ww s.now s.runs (Jf s.topo s.up s.lic)=some r:=by
 rw[<-h.eq,Xbb (by omega)]
 rfl
theorem VZ{now:Int}{x:Run}:runB now x=true↔Qm x.job=true/\(0<=x.at'/\x.at'<=now)/\now+1<=x.at'+x.job.wall/\x.at'+x.job.wall<=1000000000:=by
 simp only[runB,Xac,J4,and_assoc]
theorem YA{j:Job}(h:Qm j=true):(1<=j.nodes/\j.nodes<=24)/\1<=j.wall/\j.wall<=1000000:=by
 simp only[Qm,Xac,J4]at h
 omega
theorem QjF{r:Jn}{j j':Job}{a b:Int}{l:List Int}(h1:Qm j=true)(h2:Qm j'=true)(hn:j'.nodes=j.nodes)(hd:j'.need=j.need)(hl:j'.lic=j.lic):resO r j' a b l=resO r j a b l:=by
 have e:Z4 r.topo j' l=Z4 r.topo j l:=by
  rw[Xan]
  unfold Z4
  rw[pB_t,pB_t]
  exact⟨fun h=>⟨h.nodes,h.diff,by rw[h.num,hn]⟩,fun h=>⟨h.nodes,h.diff,by rw[h.num,hn]⟩⟩
 unfold resO
 rw[h1,h2,e,hd,hl]
theorem Qdy{s:Qb}(hs:Qo 1000000000 s):DC Tryz.prog 110 [Qz s] (QaN (Jr s)):=by
 refine zMC func110 fun w0 Z O=>?_
 have z:=Qq s.up
 have ab:=Qw s.topo.nodes
 have ae:=hs.up
 have ac:=hs.nod
 have q:=Qdx (t:=s.topo) hs.par hs.nod
 have u:=Yu (v:=s.lic)
 have w:=W7 (x:=s.now)
 by_cases c:Qfs s
 ·have o:=c.up
  have y:=c.now
  have h3:=c.topo.nlen
  have h4:=c.topo.len
  rw[J8.2 c.topo]at q
  rw[c.lic]at u
  rw[show inB s.now 0 1000000000=true by rw[J4];exact y]at w
  rw[Qg0 c]
  repeat'(first|(refine zhm fun hb=>?_;try exact zab)|refine zUtp ?_|refine zg2 ?_ ?_|refine kmu (QpH (t:=s.topo) (up:=s.up) (lic:=s.lic) c.topo o c.lic) ?_|intro _)
  refine Qa (fun(k:Nat×Jn)=>⟨99,[(1,.ptr 1 0),(2,.ptr 2 0),(4,.ptr 4 0),(44,zL (runE s.runs)),(45,zI (s.runs.length:Nat)),(46,zI k.1)],[(1,.box 34 (JI s)),(2,.box 180 [.nil,.nil,.nil,.nil,.nil]),(4,.box 180 (QbV k.2))]⟩) (fun k=>GoP s k.1 k.2) (fun k=>s.runs.length-k.1) (0,Jf s.topo s.up s.lic) (by exact⟨Xae _,WS c.topo o c.lic,rfl⟩) ?_ ?_
  ·exact zll
  ·rintro ⟨n,r⟩ e
   dsimp only at e ⊢
   have aa:=e.le
   have ad:=Qe s.runs
   by_cases f:n<s.runs.length
   ·cases d:runB s.now (nth s.runs n) with
    | false=>
     rw[Qp4 e f d]
     have g:=Xf (j:=(nth s.runs n).job)
     cases i:Qm (nth s.runs n).job with
     | false=>
      rw[i]at g
      repeat'(first|(refine zhm fun hb=>?_;try exact zab)|refine zUrp ?_|refine zg2 ?_ ?_|intro _)
      exact zDR
     | true=>
      rw[i]at g
      obtain⟨k4,k5⟩:=YA i
      repeat'(first|(refine zhm fun hb=>?_;try exact zab)|refine zUrn ?_|refine zg2 ?_ ?_|refine zqj Q5 ?_|intro _)
      all_goals first
       | (exfalso;have:=VZ.2 (⟨i,by omega,by omega,by omega⟩:Qm (nth s.runs n).job=true/\_);rw[d]at this;cases this;done)
       | skip
      any_goals
       show AWp _ _ _ _
       refine QA ?_
       apply Qs
       refine zm () [] trivial ?_ ?_ ?_
       repeat'(first|exact ze3|refine ze2 ?_ ?_|refine ze4 ?_|exact ze5|fail)
       all_goals exact zp rfl
    | true=>
     obtain⟨p,k2,k3⟩:=VZ.1 d
     obtain⟨k4,k5⟩:=YA p
     have g:=Xf (j:=(nth s.runs n).job)
     rw[p]at g
     have h:=QvM (j:=(nth s.runs n).job) (a:=s.now) (b:=(nth s.runs n).at'+(nth s.runs n).job.wall) e.ok (hs.rno n f)
     cases l:resO r (nth s.runs n).job s.now ((nth s.runs n).at'+(nth s.runs n).job.wall) (nth s.runs n).nodes with
     | none=>
      rw[l]at h
      rw[Qqn e f l]
      repeat'(first|(refine zhm fun hb=>?_;try exact zab)|refine zUrn ?_|refine zg2 ?_ ?_|refine zqj Q5 ?_|refine kmu h ?_|intro _)
      exact zDR
     | some r'=>
      rw[l]at h
      have m:=QwC e f d l
      repeat'(first|(refine zhm fun hb=>?_;try exact zab)|refine zUrn ?_|refine zg2 ?_ ?_|refine zqj Q5 ?_|refine kmu h ?_|intro _)
      exact⟨(n+1,r'),m,by dsimp only;omega,zll⟩
   ·rw[QvG e f]
    repeat'(first|(refine zhm fun hb=>?_;try exact zab)|refine zUrp ?_|refine zg2 ?_ ?_|intro _)
    exact zDR
 ·rw[Qg7 c]
  repeat'(first|(refine zhm fun hb=>?_;try exact zab)|refine zUrp ?_|refine zg2 ?_ ?_|intro _)
  all_goals first
   | (exfalso;exact c ⟨J8.1 (by assumption),by omega,by assumption,by omega⟩)
   | skip
  any_goals
   show AWp _ _ _ _
   refine QA ?_
   apply Qs
   refine zm () [] trivial ?_ ?_ ?_
   repeat'(first|exact ze3|refine ze2 ?_ ?_|refine ze4 ?_|exact ze5|fail)
   all_goals exact zp rfl
end
end Go.Proofs.YtkdniahincpmaaaGreat
