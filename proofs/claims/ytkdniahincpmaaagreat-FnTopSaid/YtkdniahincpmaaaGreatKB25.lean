/-
  The library's Delete, at jobs.
-/
import Derived.Test.YtkdniahincpmaaaGreatKB23
set_option maxRecDepth 100000
set_option maxHeartbeats 16000000
namespace Go.Proofs.YtkdniahincpmaaaGreat
open Go Go.RowKit Tryz
section
section
variable {X:Cx} {σ:AS} {o:Oper} {K:AS->Prop} {t:Nat}
theorem QpD{T e:TypeId}{x lo hi mx:Operand}{p i j m:Nat}{es:List (List D)}{dp:Bool}{u v q:Int}[te:TI X.P e](ho:o.op=.slice T x (some lo) (some hi) (some mx))(hd:o.dst=some t)(hT:JQ X T=some e)(hx:σ.ev x=.row p)(hp:Qn σ.ob p=some (.row e es dp))
  (hlo:σ.ev lo=zI u) (hi':u=(i:Int)) (hhi:σ.ev hi=zI v) (hj:v=(j:Int)) (hmx:σ.ev mx=zI q) (hm:q=(m:Int)) (hb:i<=j/\j<=m/\m<=es.length) (ht:Nat.blt t σ.nt=true) (hK:K (σ.put t .any)):QOk X o σ K:=by
 subst hi';subst hj;subst hm
 refine Jh hd ht (fun a w en h=>?_) hK
 have hu:=QY hT
 obtain⟨y,hy,l,ae,A,c,g1,g2,g4,g5,g6⟩:=Qck h hp
 obtain⟨y',k,r,e2,n⟩:=QZ h hx
 have:=h.mem.ent_unique k hy (r.trans l.symm)
 subst this
 obtain⟨F1,⟨s,_⟩,_⟩:=QZ h hlo
 obtain⟨F2,⟨z,_⟩,_⟩:=QZ h hhi
 obtain⟨F3,⟨f3,_⟩,_⟩:=QZ h hmx
 obtain⟨q,f,_,g,_⟩:=te.parts
 have d:∀w':World,(Instr.sliceBounds true es.length c (some (.int .i64 i)) (some (.int .i64 j)) (some (.int .i64 m))).run X.P w'=.ok (i,j,m) w':=fun w'=>by
  have b:∀(x y:Nat) (c:BoundsCode) (w:World),x<=y->(Instr.sliceBound (.int .i64 (x:Int)) y c).run X.P w=.ok x w:=fun x y c w h=>by
   rw[run_sliceBound w .i64 x y c (by omega) (by omega)];simp
  have h1:m<=c:=by omega
  simp[Instr.sliceBounds, *]
 rw[g1]at n
 refine⟨.slice (if m=i then A else A.map (·.add (i*te.size))) (j-i) (m-i),fun w' _=>?_,trivial⟩
 simp only[execOp,ho,n,XaP,s,z,f3,Instr.sliceAt,Sem.run_bind,run_underlying hu,Instr.slice,d w',sizeOf,typeInfo,run_program,f,g,Sem.run_pure,Result.andThen]
end
attribute [local irreducible] AWp QI OpOk ACalls ChA QsOk MCalls NCalls EnC PY
theorem Qlh{E:List (List D)}{k m:Nat}(h:WC E=true):WC (E.take k++(E.drop (k+1)++E.drop m))=true:=by
 unfold WC at *
 rw[Xaw]at *
 intro x a
 rcases Xag.1 a with a|a
 ·exact h x (XaC a)
 ·rcases Xag.1 a with a|a
  ·exact h x (XaN a)
  ·exact h x (XaN a)
theorem Qq0{E:List (List D)}{z:List D}{k m a i n:Nat}(h:WC E=true)(hz:z.all D.flat1=true:=by rfl):WC ((E.take k++(E.drop (k+1)++E.drop m)).take i++(List.replicate a z++(E.take k++(E.drop (k+1)++E.drop m)).drop n))=true:=by
 have c:=Qlh (k:=k) (m:=m) h
 unfold WC at c ⊢
 rw[Xaw]at c ⊢
 intro x b
 rcases Xag.1 b with b|b
 ·exact c x (XaC b)
 ·rcases Xag.1 b with b|b
  ·rw[Xby b];exact hz
  ·exact c x (XaN b)
theorem Qxx{l:List Job}{k a n:Nat}{z:List D}(hk:k<l.length):List.take (l.length-1) ((List.take k (jobE l)++(List.drop (k+1) (jobE l)++List.drop (l.length-1) (jobE l))).take (l.length-1)++(List.replicate a z++(List.take k (jobE l)++(List.drop (k+1) (jobE l)++List.drop (l.length-1) (jobE l))).drop n))=jobE (l.eraseIdx k):=by
 have d:=Ql l
 have b:(List.take k (jobE l)++List.drop (k+1) (jobE l)).length=l.length-1:=by
  rw[Xaa,Xah,XaL];omega
 have c:(List.take k (jobE l)++(List.drop (k+1) (jobE l)++List.drop (l.length-1) (jobE l))).take (l.length-1)=List.take k (jobE l)++List.drop (k+1) (jobE l):=by
  rw[<-Xaq,Xa5 (by omega),<-b,Xak]
 rw[c,Xa5 (by omega),<-b,Xak,List.eraseIdx_eq_take_drop_succ]
 simp[jobE,List.map_take,List.map_drop]
theorem QmX{l:List Job}{k:Nat}(hk:k<l.length)(hl:l.length<=1000000000):NCalls Tryz.prog 246 [.row 500000,zI k,zI ((k+1:Nat):Int)] [(500000,.row 40 (jobE l) true)] (fun _:Unit=>True) (fun _=>[.row 0]) (fun _=>[(0,.row 40 (jobE (l.eraseIdx k)) true)]):=by
 refine W8 tt func246 rfl rfl rfl (fun _ _=>rfl) (fun w0 Z O=>?_)
 have c:=Ql l
 have a:WC (jobE l)=true:=Q6 fun _=>rfl
 have b:=Qlh (k:=k) (m:=l.length-1) a
 repeat'(first|(refine zhm fun hb=>?_;try exact zab)|refine zUrd ?_|(apply zchE;exact zcg)|(apply zch;exact zcg)|exact zhk|refine zg3 ?_ ?_|(apply VS;first|(refine QOk.ok (QpD rfl rfl rfl rfl rfl rfl rfl rfl rfl rfl rfl (by omega) rfl ?_))|(refine QrM (j:=k+1) (m:=l.length-1) rfl rfl rfl rfl rfl rfl ⟨rfl,rfl,rfl⟩ a c (by omega) (by omega) rfl ?_)|(refine QOk.ok (Qh6 (n:=l.length) (i:=l.length-1) (j:=l.length) rfl rfl rfl rfl rfl (by simp;omega) rfl (by omega) rfl (by omega) (by omega) rfl ?_))|(refine Qd2 rfl rfl rfl rfl rfl ⟨rfl,rfl,rfl⟩ rfl rfl rfl rfl b (by omega) ?_))|refine zln fun _=>?_|refine zop ?_|intro _)
 show AWp _ _ _ _
 refine Qn0 6 rfl rfl (Qq0 a) (by simp;omega) rfl ?_
 apply Qu
 refine zn () [500000] (by exact trivial) ?_ ?_
 repeat'(first|exact ze3|refine ze2 ?_ ?_|refine ze4 ?_|exact ze5|fail)
 all_goals exact zp (Qxx hk)
end
section
attribute [local irreducible] AWp QI OpOk ACalls ChA QsOk MCalls NCalls EnC PY
@[reducible] def W9 (s:Qb) (q1 q2:Nat):List AV:=[zL (intE s.topo.parents),zL (Qw s.topo.nodes),zL (Qp s.up),zI s.lic.a,zI s.lic.b,zI s.lic.c,zI s.depth,zI s.now,zL (jobE s.queue),.row q1,.row q2]
theorem QnM{s:Qb}(hs:Qj 1000000000 s):MCalls Tryz.prog 210 [.agg (W9 s 1000000 1000001)] [(1000000,.row 66 (runE s.runs) false),(1000001,.row 123 (endE s.ends) true)] (fun _:Unit=>True) (fun _=>[Wq ((empO s).getD zR),.d (.b (empO s).isSome)]) (fun _=>[(1000000,.row 66 (runE s.runs) false),(1000001,.row 123 (endE s.ends) true)]) (fun _=>[]):=by
 refine Js tt func210 rfl rfl rfl ⟨.inr (.inr rfl),.inl rfl,trivial⟩ (fun _ _=>⟨⟨⟨rfl,rfl,rfl⟩,⟨rfl,rfl,rfl⟩,trivial⟩,.inr (.inr rfl),.inl rfl,trivial⟩) (fun w0 Z O=>?_)
 have x:=Qx s.up
 have z:=Qz s.topo.nodes
 have ac:=hs.up
 have aa:=hs.nod
 have q:=ZU (t:=s.topo) hs.par hs.nod
 have r:=J5 (v:=s.lic)
 cases l:JG s.topo with
 | false=>
  rw[l]at q
  rw[Qgs (.inl l)]
  repeat'(first|(refine zhm fun hb=>?_;try exact zab)|refine zUrp ?_|refine zg2 ?_ ?_|intro _)
  exact zDR
 | true=>
  rw[l]at q
  by_cases o:s.up.length=s.topo.nodes.length
  ·cases g:Qf s.lic with
   | false=>
    rw[g]at r
    rw[Qgs (.inr (.inr g))]
    repeat'(first|(refine zhm fun hb=>?_;try exact zab)|refine zUrp ?_|refine zg2 ?_ ?_|intro _)
    exact zDR
   | true=>
    rw[g]at r
    have j:=JY.1 l
    have h4:=j.len
    have h5:=j.nlen
    have f:=W3 j o g
    have p:(Jd s.topo s.up s.lic).profs=XV s.topo.nodes:=rfl
    rw[Qjx j o g]
    repeat'(first|(refine zhm fun hb=>?_;try exact zab)|refine zUtp ?_|refine zg2 ?_ ?_|intro _)
    refine Qa (fun(k:Nat×List (List Pt))=>⟨65,[(1,.ptr 1 0),(2,.ptr 2 0),(4,.ptr 4 0),(37,zL (Qw s.topo.nodes)),(38,zI (s.topo.nodes.length:Nat)),(39,zI k.1)],[(1000000,.row 66 (runE s.runs) false),(1000001,.row 123 (endE s.ends) true),(1,.box 34 (W9 s 1000000 1000001)),(2,.box 180 [.nil,.nil,.nil,.nil,.nil]),(4,.box 180 [zL (intE s.topo.parents),zL (Qw s.topo.nodes),zL (Qp s.up),slN 53 (Q8 k.2),.nil])]++slO 53 178 (Q8 k.2)⟩) (fun k=>k.1<=s.topo.nodes.length/\k.2=XV (s.topo.nodes.take k.1)) (fun k=>s.topo.nodes.length-k.1) (0,[]) (by exact⟨Xad _,rfl⟩) ?_ ?_
    ·exact zll
    ·rintro ⟨n,e⟩ ⟨y,m⟩
     dsimp only at y m ⊢
     have ab:e.length=n:=by rw[m,XV,XaB,Xah];omega
     have w:=QB e
     by_cases i:n<s.topo.nodes.length
     ·have h:=Qal i
      rw[<-m]at h
      have u:=j.nodes n i
      cases e with
      | nil=>
       repeat'(first|(refine zhm fun hb=>?_;try exact zab)|(refine Qh 8 46 rfl ?_)|refine zUtp ?_|refine zg2 ?_ ?_|refine kc (Yn (v:=(nth s.topo.nodes n).cap) u.2.2) rfl rfl ?_|intro _)
       refine⟨(n+1,[]++[[⟨0,(nth s.topo.nodes n).cap⟩]]),⟨by omega,h.symm⟩,by omega,?_⟩
       exact zll
      | cons p0 o0=>
       repeat'(first|(refine zhm fun hb=>?_;try exact zab)|(refine Qh 8 46 rfl ?_)|refine zUtp ?_|refine zg2 ?_ ?_|refine kc (Yn (v:=(nth s.topo.nodes n).cap) u.2.2) rfl rfl ?_|intro _)
       refine⟨(n+1,(p0::o0)++[[⟨0,(nth s.topo.nodes n).cap⟩]]),⟨by omega,h.symm⟩,by omega,?_⟩
       refine zag ?_;exact zp (Wa (p0::o0) _)
     ·have a:XV s.topo.nodes=e:=by rw[m,Xas (by omega)]
      cases e with
      | nil=>
       have c:=Qjf (tp:=s.topo) (up:=s.up) (li:=[⟨0,s.lic⟩]) (by unfold Jd at f;rw[show(s.topo.nodes.map fun n=>[(⟨0,n.cap⟩:Pt)])=[] from a]at f;exact f)
       unfold Jd
       rw[show(s.topo.nodes.map fun n=>[(⟨0,n.cap⟩:Pt)])=[] from a]
       repeat'(first|(refine zhm fun hb=>?_;try exact zab)|(refine Qh 11 59 rfl ?_)|refine zUrp ?_|refine zg2 ?_ ?_|refine kc (Yn (v:=s.lic) g) rfl rfl ?_|refine kmu c ?_|intro _)
       exact zDR
      | cons p0 o0=>
       have c:=Qe4 f (by rw[p,a];exact Xco _)
       unfold Jd at c
       rw[show(s.topo.nodes.map fun n=>[(⟨0,n.cap⟩:Pt)])=p0::o0 from a]at c
       unfold Jd
       rw[show(s.topo.nodes.map fun n=>[(⟨0,n.cap⟩:Pt)])=p0::o0 from a]
       repeat'(first|(refine zhm fun hb=>?_;try exact zab)|(refine Qh 11 59 rfl ?_)|(refine Qh 11 53 rfl ?_)|refine zUrp ?_|refine zg2 ?_ ?_|refine kc (Yn (v:=s.lic) g) rfl rfl ?_|refine kmu c ?_|intro _)
       show AWp _ _ _ _
       refine Qr 64 rfl ?_
       exact zDR
  ·rw[Qgs (.inr (.inl o))]
   repeat'(first|(refine zhm fun hb=>?_;try exact zab)|refine zUrp ?_|refine zg2 ?_ ?_|intro _)
   any_goals
    show AWp _ _ _ _
    refine QA ?_
    apply Qu
    refine zm () [] trivial ?_ ?_ ?_
    repeat'(first|exact ze3|refine ze2 ?_ ?_|refine ze4 ?_|exact ze5|fail)
    all_goals exact zp rfl
theorem Qhr{s:Qb}(hs:Qj 1000000000 s):MCalls Tryz.prog 125 [.agg (W9 s 1000000 1000001)] [(1000000,.row 66 (runE s.runs) false),(1000001,.row 123 (endE s.ends) true)] (fun _:Unit=>True) (fun _=>(QaK (Jg s))) (fun _=>[(1000000,.row 66 (runE s.runs) false),(1000001,.row 123 (endE s.ends) true)]) (fun _=>[]):=by
 refine Js tt func125 rfl rfl rfl ⟨.inr (.inr rfl),.inl rfl,trivial⟩ (fun _ _=>⟨⟨⟨rfl,rfl,rfl⟩,⟨rfl,rfl,rfl⟩,trivial⟩,.inr (.inr rfl),.inl rfl,trivial⟩) (fun w0 Z O=>?_)
 have o:=QnM hs
 have y:=Wl (x:=s.now)
 by_cases c:Qda s
 ·have h1:=c.up
  have z:=c.now
  have h3:=c.topo.nlen
  have h4:=c.topo.len
  rw[Qjx c.topo c.up c.lic]at o
  rw[show inB s.now 0 1000000000=true by rw[JA];exact z]at y
  rw[QhP c]
  repeat'(first|(refine zhm fun hb=>?_;try exact zab)|refine zUtp ?_|refine zg2 ?_ ?_|(refine km [1000000,1000001] (o) rfl rfl (fun i hi=>?_);try dsimp only at hi)|intro _)
  refine Qa (fun(k:Nat×Jm)=>⟨93,[(1,.ptr 1 0),(2,.ptr 2 0),(4,.ptr 4 0),(27,.row 1000000),(28,zI (s.runs.length:Nat)),(29,zI k.1)],[(1000000,.row 66 (runE s.runs) false),(1000001,.row 123 (endE s.ends) true),(1,.box 34 (W9 s 1000000 1000001)),(2,.box 180 [.nil,.nil,.nil,.nil,.nil]),(4,.box 180 (Qb5 k.2))]⟩) (fun k=>GoP s k.1 k.2) (fun k=>s.runs.length-k.1) (0,Jd s.topo s.up s.lic) (by exact⟨Xad _,W3 c.topo h1 c.lic,rfl⟩) ?_ ?_
  ·exact zll
  ·rintro ⟨n,r⟩ d
   dsimp only at d ⊢
   have ae:=d.le
   have af:=Qg s.runs
   by_cases e:n<s.runs.length
   ·have p:=Qec (j:=(nth s.runs n).job) (l:=(nth s.runs n).nodes) d.ok (hs.rno n e)
    cases g:(Qk (nth s.runs n).job&&Xc r.topo (nth s.runs n).job (nth s.runs n).nodes) with
    | false=>
     rw[g]at p
     have m:Wt s.now s.runs (Jd s.topo s.up s.lic)=none:=by
      cases b:runB s.now (nth s.runs n) with
      | false=>exact Qpp d e b
      | true=>
       refine Qqd d e ?_
       cases hj:Qk (nth s.runs n).job with
       | false=>exact Qfp hj
       | true=>rw[hj,Xbw]at g;exact Qeu g
     rw[m]
     repeat'(first|(refine zhm fun hb=>?_;try exact zab)|refine zUr ?_|refine zg2 ?_ ?_|(apply VS;first|refine zom ?_|(apply QOk.ok;refine ZF rfl rfl rfl rfl rfl rfl ?_))|refine zln fun _=>?_|refine zop ?_|refine zqj p ?_|fail)
     exact zDR
    | true=>
     rw[g]at p
     rw[Xab]at g
     obtain⟨k4,k5⟩:=YB g.1
     cases b:runB s.now (nth s.runs n) with
     | false=>
      rw[Qpp d e b]
      by_cases ad:0<=(nth s.runs n).at'/\(nth s.runs n).at'<=1000000000
      ·have q:=Wl (x:=(nth s.runs n).at')
       repeat'(first|(refine zhm fun hb=>?_;try exact zab)|refine zUrn ?_|refine zg2 ?_ ?_|intro _)
       all_goals first
        | (exfalso;have:=(Zc (now:=s.now) (x:=nth s.runs n)).2 ⟨g.1,by omega,by omega,by omega⟩;rw[b]at this;cases this;done)
        | skip
       any_goals
        show AWp _ _ _ _
        refine QA ?_
        apply Qu
        refine zm () [] trivial ?_ ?_ ?_
        repeat'(first|exact ze3|refine ze2 ?_ ?_|refine ze4 ?_|exact ze5|fail)
        all_goals exact zp rfl
      ·have q:=Wl (x:=(nth s.runs n).at')
       rw[show inB (nth s.runs n).at' 0 1000000000=false by rw[Qoh];omega]at q
       repeat'(first|(refine zhm fun hb=>?_;try exact zab)|refine zUr ?_|refine zg2 ?_ ?_|(apply VS;first|refine zom ?_|(apply QOk.ok;refine ZF rfl rfl rfl rfl rfl rfl ?_))|refine zln fun _=>?_|refine zon ?_|refine zqj p ?_|refine zqj q ?_|fail)
       exact zDR
     | true=>
      obtain⟨k1,k2,k3⟩:=Zc.1 b
      have q:=Wl (x:=(nth s.runs n).at')
      have f:=QeA (j:={ (nth s.runs n).job with wall:=(nth s.runs n).at'+(nth s.runs n).job.wall-s.now }) (a:=s.now) d.ok (hs.rno n e) z
      have v:Qk { (nth s.runs n).job with wall:=(nth s.runs n).at'+(nth s.runs n).job.wall-s.now }=true:=by
       have:=k1
       simp only[Qk,Xab,JA]at this ⊢
       exact⟨⟨this.1.1,by omega⟩,this.2⟩
      rw[Qh5 (j:=(nth s.runs n).job) k1 v rfl rfl rfl]at f
      dsimp only at f
      rw[show s.now+((nth s.runs n).at'+(nth s.runs n).job.wall-s.now)=(nth s.runs n).at'+(nth s.runs n).job.wall by omega]at f
      cases t:resO r (nth s.runs n).job s.now ((nth s.runs n).at'+(nth s.runs n).job.wall) (nth s.runs n).nodes with
      | none=>
       rw[t]at f
       rw[Qqd d e t]
       repeat'(first|(refine zhm fun hb=>?_;try exact zab)|refine zUrn ?_|refine zg2 ?_ ?_|refine kmu f ?_|intro _)
       exact zDR
      | some r'=>
       rw[t]at f
       have w:=Qv8 d e b t
       repeat'(first|(refine zhm fun hb=>?_;try exact zab)|refine zUrn ?_|refine zg2 ?_ ?_|refine kmu f ?_|intro _)
       exact⟨(n+1,r'),w,by dsimp only;omega,zll⟩
   ·rw[QwU d e]
    repeat'(first|(refine zhm fun hb=>?_;try exact zab)|refine zUrp ?_|refine zg2 ?_ ?_|intro _)
    exact zDR
 ·rw[Qg8 c]
  cases u:empO s with
  | none=>
   rw[u]at o
   repeat'(first|(refine zhm fun hb=>?_;try exact zab)|refine zUrp ?_|refine zg2 ?_ ?_|(refine km [1000000,1000001] (o) rfl rfl (fun i hi=>?_);try dsimp only at hi)|intro _)
   exact zDR
  | some r0=>
   rw[u]at o
   rw[show inB s.now 0 1000000000=false by
    rw[Qoh]
    rcases Classical.em (0<=s.now/\s.now<=1000000000)with h|h
    ·exact absurd (Qjs.2 ⟨by rw[u];rfl,h⟩) c
    ·omega]at y
   repeat'(first|(refine zhm fun hb=>?_;try exact zab)|refine zUrp ?_|refine zg2 ?_ ?_|(refine km [1000000,1000001] (o) rfl rfl (fun i hi=>?_);try dsimp only at hi)|intro _)
   exact zDR
theorem Qfh{s:Qb}(hs:Qj 100000000 s):DC Tryz.prog 46 [Qt s] [Qt s]:=dc_a (Q2 hs)
theorem YX{s:Qb}(hs:Qj 100000000 s):DC Tryz.prog 127 [Qt s] [Qt s]:=dc_a (XO hs)
theorem Qe9{s:Qb}(hs:Qj 100000000 s):MCalls Tryz.prog 127 [Qt s] [] (fun _:Unit=>True) (fun _=>[.agg (W9 s 0 1)]) (fun _=>[]) (fun _=>[(0,.row 66 (runE s.runs) false),(1,.row 123 (endE s.ends) true)]):=by
 refine zMC func127 fun w0 Z O=>?_
 have hl:=Qg s.runs
 have h1:=hs.par;have h2:=hs.nod;have h3:=hs.up;have h4:=hs.que;have h5:=hs.run;have h6:=hs.end'
 repeat'(first|(refine zhm fun hb=>?_;try exact zab)|(refine Qh 2 6 rfl ?_)|(refine Qh 2 11 rfl ?_)|(refine Qh 3 18 rfl ?_)|(refine Qh 4 23 rfl ?_)|refine Qd ?_|(apply zch;exact zcg)|exact zhk|refine zg3 ?_ ?_|intro _)
 refine Qa (fun(k:Nat)=>⟨54,[(1,.ptr 1 0),(2,.ptr 2 0),(3,.row 28),(30,zL (runE s.runs)),(31,zI (s.runs.length:Nat)),(32,zI k)],[(28,.row 66 (runE (s.runs.take k)) true),(1,.box 34 (Q3 s)),(2,.box 34 [.nil,.nil,.nil,zI 0,zI 0,zI 0,zI 0,zI 0,.nil,.nil,.nil])]⟩) (fun k=>k<=s.runs.length) (fun k=>s.runs.length-k) 0 (by exact Xad _) ?_ ?_
 ·exact zll
 ·intro k hk
  have e:(runE (s.runs.take k)).length=k:=by rw[Qg,Xah];omega
  by_cases d:k<s.runs.length
  ·have hn:=hs.rno k d
   repeat'(first|(refine zhm fun hb=>?_;try exact zab)|refine zUtd ?_|(apply zch;exact zcg)|exact zhk|refine zg3 ?_ ?_|(apply VS;first|(refine VG rfl rfl rfl ⟨rfl,rfl,rfl⟩ rfl rfl rfl rfl rfl rfl rfl rfl (Q6 fun _=>rfl) rfl rfl rfl rfl rfl ?_)|(refine J8 rfl rfl rfl rfl rfl rfl rfl rfl ⟨rfl,rfl,rfl⟩ e (rfl:_=1) (by omega) rfl rfl ?_))|refine zln fun _=>?_|refine zop ?_|intro _)
   refine⟨k+1,by omega,by omega,?_⟩
   refine zag ?_;exact zp (Va d)
  ·obtain rfl:k=s.runs.length:=by omega
   repeat'(first|(refine zhm fun hb=>?_;try exact zab)|refine QR ?_|(apply zch;exact zcg)|exact zhk|refine zg3 ?_ ?_|intro _)
   show AWp _ _ _ _
   refine Vp 28 rfl ?_
   show AWp _ _ _ _
   refine QA ?_
   apply Qu
   refine zm () [28,48] trivial ?_ ?_ ?_
   repeat'(first|exact ze3|refine ze2 ?_ ?_|refine ze4 ?_|exact ze5|fail)
   all_goals exact zp (by first|rfl|rw[Xak])
@[reducible] def Qwk (s:Qb) (q0 q1 q2:Nat):List AV:=[zL (intE s.topo.parents),zL (Qw s.topo.nodes),zL (Qp s.up),zI s.lic.a,zI s.lic.b,zI s.lic.c,zI s.depth,zI s.now,.row q0,.row q1,.row q2]
@[reducible] def QvY (s:Qb) (q0:Nat):List AV:=[zL (intE s.topo.parents),zL (Qw s.topo.nodes),zL (Qp s.up),zI s.lic.a,zI s.lic.b,zI s.lic.c,zI s.depth,zI s.now,.row q0,zL (runE s.runs),zL (endE s.ends)]
theorem Qq7{s:Qb}(hs:Qj 100000000 s):MCalls Tryz.prog 127 [Qt s] [] (fun _:Unit=>True) (fun _=>[.agg (Qwk s 0 1 2)]) (fun _=>[]) (fun _=>[(0,.row 40 (jobE s.queue) true),(1,.row 66 (runE s.runs) false),(2,.row 123 (endE s.ends) true)]):=by
 refine zMC func127 fun w0 Z O=>?_
 have hl:=Qg s.runs
 have h1:=hs.par;have h2:=hs.nod;have h3:=hs.up;have h4:=hs.que;have h5:=hs.run;have h6:=hs.end'
 repeat'(first|(refine zhm fun hb=>?_;try exact zab)|(refine Qh 2 6 rfl ?_)|(refine Qh 2 11 rfl ?_)|(refine Qh 3 18 rfl ?_)|refine Qd ?_|(apply zch;exact zcg)|exact zhk|refine zg3 ?_ ?_|intro _)
 refine Qa (fun(k:Nat)=>⟨54,[(1,.ptr 1 0),(2,.ptr 2 0),(3,.row 28),(30,zL (runE s.runs)),(31,zI (s.runs.length:Nat)),(32,zI k)],[(28,.row 66 (runE (s.runs.take k)) true),(23,.row 40 (jobE s.queue) true),(1,.box 34 (QvY s 23)),(2,.box 34 [.nil,.nil,.nil,zI 0,zI 0,zI 0,zI 0,zI 0,.nil,.nil,.nil])]⟩) (fun k=>k<=s.runs.length) (fun k=>s.runs.length-k) 0 (by exact Xad _) ?_ ?_
 ·exact zll
 ·intro k hk
  have b:(runE (s.runs.take k)).length=k:=by rw[Qg,Xah];omega
  by_cases a:k<s.runs.length
  ·have hn:=hs.rno k a
   repeat'(first|(refine zhm fun hb=>?_;try exact zab)|refine zUtd ?_|(apply zch;exact zcg)|exact zhk|refine zg3 ?_ ?_|(apply VS;first|(refine VG rfl rfl rfl ⟨rfl,rfl,rfl⟩ rfl rfl rfl rfl rfl rfl rfl rfl (Q6 fun _=>rfl) rfl rfl rfl rfl rfl ?_)|(refine J8 rfl rfl rfl rfl rfl rfl rfl rfl ⟨rfl,rfl,rfl⟩ b (rfl:_=1) (by omega) rfl rfl ?_))|refine zln fun _=>?_|refine zop ?_|intro _)
   refine⟨k+1,by omega,by omega,?_⟩
   refine zag ?_;exact zp (Va a)
  ·obtain rfl:k=s.runs.length:=by omega
   repeat'(first|(refine zhm fun hb=>?_;try exact zab)|refine QR ?_|(apply zch;exact zcg)|exact zhk|refine zg3 ?_ ?_|intro _)
   show AWp _ _ _ _
   refine Vp 28 rfl ?_
   show AWp _ _ _ _
   refine QA ?_
   apply Qu
   refine zm () [23,28,48] trivial ?_ ?_ ?_
   repeat'(first|exact ze3|refine ze2 ?_ ?_|refine ze4 ?_|exact ze5|fail)
   all_goals exact zp (by first|rfl|rw[Xak])
@[reducible] def QrP (s:Qb) (u q:AV) (q2:Nat):List AV:=[zL (intE s.topo.parents),zL (Qw s.topo.nodes),u,zI s.lic.a,zI s.lic.b,zI s.lic.c,zI s.depth,zI s.now,q,zL (runE s.runs),.row q2]
@[reducible] def QwW (s:Qb) (u q:AV):List AV:=[zL (intE s.topo.parents),zL (Qw s.topo.nodes),u,zI s.lic.a,zI s.lic.b,zI s.lic.c,zI s.depth,zI s.now,q,zL (runE s.runs),zL (endE s.ends)]
theorem Qq8{s:Qb}(hs:Qj 100000000 s):MCalls Tryz.prog 127 [Qt s] [] (fun _:Unit=>True) (fun _=>[.agg (QrP s (.row 0) (.row 1) 2)]) (fun _=>[]) (fun _=>[(0,.row 4 (Qp s.up) true),(1,.row 40 (jobE s.queue) true),(2,.row 123 (endE s.ends) true)]):=by
 refine zMC func127 fun w0 Z O=>?_
 have hl:=Qg s.runs
 have h1:=hs.par;have h2:=hs.nod;have h3:=hs.up;have h4:=hs.que;have h5:=hs.run;have h6:=hs.end'
 repeat'(first|(refine zhm fun hb=>?_;try exact zab)|(refine Qh 2 6 rfl ?_)|(refine Qh 2 11 rfl ?_)|refine Qd ?_|(apply zch;exact zcg)|exact zhk|refine zg3 ?_ ?_|intro _)
 refine Qa (fun(k:Nat)=>⟨54,[(1,.ptr 1 0),(2,.ptr 2 0),(3,.row 28),(30,zL (runE s.runs)),(31,zI (s.runs.length:Nat)),(32,zI k)],[(28,.row 66 (runE (s.runs.take k)) true),(18,.row 4 (Qp s.up) true),(23,.row 40 (jobE s.queue) true),(1,.box 34 (QwW s (.row 18) (.row 23))),(2,.box 34 [.nil,.nil,.nil,zI 0,zI 0,zI 0,zI 0,zI 0,.nil,.nil,.nil])]⟩) (fun k=>k<=s.runs.length) (fun k=>s.runs.length-k) 0 (by exact Xad _) ?_ ?_
 ·exact zll
 ·intro k hk
  have b:(runE (s.runs.take k)).length=k:=by rw[Qg,Xah];omega
  by_cases a:k<s.runs.length
  ·have hn:=hs.rno k a
   repeat'(first|(refine zhm fun hb=>?_;try exact zab)|refine zUtd ?_|(apply zch;exact zcg)|exact zhk|refine zg3 ?_ ?_|(apply VS;first|(refine VG rfl rfl rfl ⟨rfl,rfl,rfl⟩ rfl rfl rfl rfl rfl rfl rfl rfl (Q6 fun _=>rfl) rfl rfl rfl rfl rfl ?_)|(refine J8 rfl rfl rfl rfl rfl rfl rfl rfl ⟨rfl,rfl,rfl⟩ b (rfl:_=1) (by omega) rfl rfl ?_))|refine zln fun _=>?_|refine zop ?_|intro _)
   refine⟨k+1,by omega,by omega,?_⟩
   refine zag ?_;exact zp (Va a)
  ·obtain rfl:k=s.runs.length:=by omega
   rw[Xak]
   repeat'(first|(refine zhm fun hb=>?_;try exact zab)|refine QR ?_|(apply zch;exact zcg)|exact zhk|refine zg3 ?_ ?_|intro _)
   show AWp _ _ _ _
   refine Qr 28 rfl ?_
   show AWp _ _ _ _
   refine QA ?_
   apply Qu
   exact zm () [18,23,48] trivial zae zae zae
theorem Qjw{s:Qb}(hs:Qj 100000000 s):MCalls Tryz.prog 127 [Qt s] [] (fun _:Unit=>True) (fun _=>[.agg (QrP s (zL (Qp s.up)) (zL (jobE s.queue)) 0)]) (fun _=>[]) (fun _=>[(0,.row 123 (endE s.ends) true)]):=by
 refine zMC func127 fun w0 Z O=>?_
 have hl:=Qg s.runs
 have h1:=hs.par;have h2:=hs.nod;have h3:=hs.up;have h4:=hs.que;have h5:=hs.run;have h6:=hs.end'
 repeat'(first|(refine zhm fun hb=>?_;try exact zab)|(refine Qh 2 6 rfl ?_)|(refine Qh 2 11 rfl ?_)|(refine Qh 3 18 rfl ?_)|(refine Qh 4 23 rfl ?_)|refine Qd ?_|(apply zch;exact zcg)|exact zhk|refine zg3 ?_ ?_|intro _)
 refine Qa (fun(k:Nat)=>⟨54,[(1,.ptr 1 0),(2,.ptr 2 0),(3,.row 28),(30,zL (runE s.runs)),(31,zI (s.runs.length:Nat)),(32,zI k)],[(28,.row 66 (runE (s.runs.take k)) true),(1,.box 34 (Q3 s)),(2,.box 34 [.nil,.nil,.nil,zI 0,zI 0,zI 0,zI 0,zI 0,.nil,.nil,.nil])]⟩) (fun k=>k<=s.runs.length) (fun k=>s.runs.length-k) 0 (by exact Xad _) ?_ ?_
 ·exact zll
 ·intro k hk
  have b:(runE (s.runs.take k)).length=k:=by rw[Qg,Xah];omega
  by_cases a:k<s.runs.length
  ·have hn:=hs.rno k a
   repeat'(first|(refine zhm fun hb=>?_;try exact zab)|refine zUtd ?_|(apply zch;exact zcg)|exact zhk|refine zg3 ?_ ?_|(apply VS;first|(refine VG rfl rfl rfl ⟨rfl,rfl,rfl⟩ rfl rfl rfl rfl rfl rfl rfl rfl (Q6 fun _=>rfl) rfl rfl rfl rfl rfl ?_)|(refine J8 rfl rfl rfl rfl rfl rfl rfl rfl ⟨rfl,rfl,rfl⟩ b (rfl:_=1) (by omega) rfl rfl ?_))|refine zln fun _=>?_|refine zop ?_|intro _)
   refine⟨k+1,by omega,by omega,?_⟩
   refine zag ?_;exact zp (Va a)
  ·obtain rfl:k=s.runs.length:=by omega
   rw[Xak]
   repeat'(first|(refine zhm fun hb=>?_;try exact zab)|refine QR ?_|(apply zch;exact zcg)|exact zhk|refine zg3 ?_ ?_|intro _)
   show AWp _ _ _ _
   refine Qr 28 rfl ?_
   show AWp _ _ _ _
   refine QA ?_
   apply Qu
   exact zm () [48] trivial zae zae zae
theorem Qfm{s:Qb}(hs:Qj 100000000 s):MCalls Tryz.prog 46 [Qt s] [] (fun _:Unit=>True) (fun _=>[.agg (QrP s (.row 0) (.row 1) 2)]) (fun _=>[]) (fun _=>[(0,.row 4 (Qp s.up) true),(1,.row 40 (jobE s.queue) true),(2,.row 123 (endE s.ends) true)]):=by
 refine zMC func46 fun w0 Z O=>?_
 have hl:=Qg s.runs
 have h1:=hs.par;have h2:=hs.nod;have h3:=hs.up;have h4:=hs.que;have h5:=hs.run;have h6:=hs.end'
 repeat'(first|(refine zhm fun hb=>?_;try exact zab)|refine zUtp ?_|refine zg2 ?_ ?_|refine kmu (Qao (t:=s.topo) (by omega) (by omega)) ?_|intro _)
 refine ZG 3 3 66 rfl rfl rfl ?_
 refine Qa (fun(k:Nat)=>⟨41,[(1,.ptr 1 0),(2,.ptr 2 0),(3,.row 3),(19,zL (runE s.runs)),(20,zI (s.runs.length:Nat)),(21,zI k)],[(3,.row 66 (runE (s.runs.take k)) true),(12,.row 4 (Qp s.up) true),(16,.row 40 (jobE s.queue) true),(1,.box 34 (QwW s (.row 12) (.row 16))),(2,.box 34 [.nil,.nil,.nil,zI 0,zI 0,zI 0,zI 0,zI 0,.nil,.nil,.nil])]⟩) (fun k=>k<=s.runs.length) (fun k=>s.runs.length-k) 0 (by exact Xad _) ?_ ?_
 ·exact zll
 ·intro k hk
  have b:(runE (s.runs.take k)).length=k:=by rw[Qg,Xah];omega
  by_cases a:k<s.runs.length
  ·have hn:=hs.rno k a
   repeat'(first|(refine zhm fun hb=>?_;try exact zab)|refine zUt ?_|refine zg2 ?_ ?_|(apply VS;first|(refine VG rfl rfl rfl ⟨rfl,rfl,rfl⟩ rfl rfl rfl rfl rfl rfl rfl rfl (Q6 fun _=>rfl) rfl rfl rfl rfl rfl ?_)|(refine J8 rfl rfl rfl rfl rfl rfl rfl rfl ⟨rfl,rfl,rfl⟩ b (rfl:_=1) (by omega) rfl rfl ?_))|refine zln fun _=>?_|refine zop ?_|refine kc (WO (l:=(nth s.runs k).nodes) (by omega)) rfl rfl ?_|fail)
   refine⟨k+1,by omega,by omega,?_⟩
   refine zag ?_;exact zp (Va a)
  ·obtain rfl:k=s.runs.length:=by omega
   rw[Xak]
   repeat'(first|(refine zhm fun hb=>?_;try exact zab)|refine zUrp ?_|refine zg2 ?_ ?_|intro _)
   show AWp _ _ _ _
   refine Qr 3 rfl ?_
   show AWp _ _ _ _
   refine QA ?_
   apply Qu
   exact zm () [12,16,38] trivial zae zae zae
theorem QeH{s:Qb}(hs:Qj 100000000 s):MCalls Tryz.prog 46 [Qt s] [] (fun _:Unit=>True) (fun _=>[.agg (QrP s (zL (Qp s.up)) (.row 0) 1)]) (fun _=>[]) (fun _=>[(0,.row 40 (jobE s.queue) true),(1,.row 123 (endE s.ends) true)]):=by
 refine zMC func46 fun w0 Z O=>?_
 have hl:=Qg s.runs
 have h1:=hs.par;have h2:=hs.nod;have h3:=hs.up;have h4:=hs.que;have h5:=hs.run;have h6:=hs.end'
 repeat'(first|(refine zhm fun hb=>?_;try exact zab)|(refine Qh 3 12 rfl ?_)|refine zUtp ?_|refine zg2 ?_ ?_|refine kmu (Qao (t:=s.topo) (by omega) (by omega)) ?_|intro _)
 refine ZG 3 3 66 rfl rfl rfl ?_
 refine Qa (fun(k:Nat)=>⟨41,[(1,.ptr 1 0),(2,.ptr 2 0),(3,.row 3),(19,zL (runE s.runs)),(20,zI (s.runs.length:Nat)),(21,zI k)],[(3,.row 66 (runE (s.runs.take k)) true),(16,.row 40 (jobE s.queue) true),(1,.box 34 (QwW s (zL (Qp s.up)) (.row 16))),(2,.box 34 [.nil,.nil,.nil,zI 0,zI 0,zI 0,zI 0,zI 0,.nil,.nil,.nil])]⟩) (fun k=>k<=s.runs.length) (fun k=>s.runs.length-k) 0 (by exact Xad _) ?_ ?_
 ·exact zll
 ·intro k hk
  have b:(runE (s.runs.take k)).length=k:=by rw[Qg,Xah];omega
  by_cases a:k<s.runs.length
  ·have hn:=hs.rno k a
   repeat'(first|(refine zhm fun hb=>?_;try exact zab)|refine zUt ?_|refine zg2 ?_ ?_|(apply VS;first|(refine VG rfl rfl rfl ⟨rfl,rfl,rfl⟩ rfl rfl rfl rfl rfl rfl rfl rfl (Q6 fun _=>rfl) rfl rfl rfl rfl rfl ?_)|(refine J8 rfl rfl rfl rfl rfl rfl rfl rfl ⟨rfl,rfl,rfl⟩ b (rfl:_=1) (by omega) rfl rfl ?_))|refine zln fun _=>?_|refine zop ?_|refine kc (WO (l:=(nth s.runs k).nodes) (by omega)) rfl rfl ?_|fail)
   refine⟨k+1,by omega,by omega,?_⟩
   refine zag ?_;exact zp (Va a)
  ·obtain rfl:k=s.runs.length:=by omega
   rw[Xak]
   repeat'(first|(refine zhm fun hb=>?_;try exact zab)|refine zUrp ?_|refine zg2 ?_ ?_|intro _)
   show AWp _ _ _ _
   refine Qr 3 rfl ?_
   show AWp _ _ _ _
   refine QA ?_
   apply Qu
   exact zm () [16,38] trivial zae zae zae
end
section

def QpS(s:Qb):List D:=[.sl (intE s.topo.parents),.sl (Qw s.topo.nodes),.sl (Qp s.up),.n .i64 s.lic.a,.n .i64 s.lic.b,.n .i64 s.lic.c,.n .i64 s.depth,.n .i64 s.now,.sl (jobE s.queue),.sl (runE s.runs),.sl (endE s.ends)]
end
end Go.Proofs.YtkdniahincpmaaaGreat
