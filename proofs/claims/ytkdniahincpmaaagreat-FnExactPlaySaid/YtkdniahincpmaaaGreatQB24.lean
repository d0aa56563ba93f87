/-
  The library's Delete, at jobs.
-/
import Derived.Test.YtkdniahincpmaaaGreatQB22
set_option maxRecDepth 100000
set_option maxHeartbeats 16000000
namespace Go.Proofs.YtkdniahincpmaaaGreat
open Go Go.RowKit Tryz
section
section
variable {X:Cx} {σ:AS} {o:Oper} {K:AS->Prop} {t:Nat}
theorem QoU{T e:TypeId}{x lo hi mx:Operand}{p i j m:Nat}{es:List (List D)}{dp:Bool}{u v q:Int}[te:TI X.P e](ho:o.op=.slice T x (some lo) (some hi) (some mx))(hd:o.dst=some t)(hT:JD X T=some e)(hx:σ.ev x=.row p)(hp:Ql σ.ob p=some (.row e es dp))
  (hlo:σ.ev lo=zI u) (hi':u=(i:Int)) (hhi:σ.ev hi=zI v) (hj:v=(j:Int)) (hmx:σ.ev mx=zI q) (hm:q=(m:Int)) (hb:i<=j/\j<=m/\m<=es.length) (ht:Nat.blt t σ.nt=true) (hK:K (σ.put t .any)):QOk X o σ K:=by
 subst hi';subst hj;subst hm
 refine Jm hd ht (fun a w en h=>?_) hK
 have hu:=QO hT
 obtain⟨y,hy,l,ae,A,c,g1,g2,g4,g5,g6⟩:=QbP h hp
 obtain⟨y',k,r,e2,n⟩:=QT h hx
 have:=h.mem.ent_unique k hy (r.trans l.symm)
 subst this
 obtain⟨F1,⟨s,_⟩,_⟩:=QT h hlo
 obtain⟨F2,⟨z,_⟩,_⟩:=QT h hhi
 obtain⟨F3,⟨f3,_⟩,_⟩:=QT h hmx
 obtain⟨q,f,_,g,_⟩:=te.parts
 have d:∀w':World,(Instr.sliceBounds true es.length c (some (.int .i64 i)) (some (.int .i64 j)) (some (.int .i64 m))).run X.P w'=.ok (i,j,m) w':=fun w'=>by
  have b:∀(x y:Nat) (c:BoundsCode) (w:World),x<=y->(Instr.sliceBound (.int .i64 (x:Int)) y c).run X.P w=.ok x w:=fun x y c w h=>by
   rw[run_sliceBound w .i64 x y c (by omega) (by omega)];simp
  have h1:m<=c:=by omega
  simp[Instr.sliceBounds, *]
 rw[g1]at n
 refine⟨.slice (if m=i then A else A.map (·.add (i*te.size))) (j-i) (m-i),fun w' _=>?_,trivial⟩
 simp only[execOp,ho,n,XaW,s,z,f3,Instr.sliceAt,Sem.run_bind,run_underlying hu,Instr.slice,d w',sizeOf,typeInfo,run_program,f,g,Sem.run_pure,Result.andThen]
end
attribute [local irreducible] AWp QM OpOk ACalls ChA QsOk MCalls NCalls EnC PY
theorem QmS{E:List (List D)}{k m:Nat}(h:Wg E=true):Wg (E.take k++(E.drop (k+1)++E.drop m))=true:=by
 unfold Wg at *
 rw[XaD]at *
 intro x a
 rcases Xag.1 a with a|a
 ·exact h x (XaE a)
 ·rcases Xag.1 a with a|a
  ·exact h x (XaM a)
  ·exact h x (XaM a)
theorem QrH{E:List (List D)}{z:List D}{k m a i n:Nat}(h:Wg E=true)(hz:z.all D.flat1=true:=by rfl):Wg ((E.take k++(E.drop (k+1)++E.drop m)).take i++(List.replicate a z++(E.take k++(E.drop (k+1)++E.drop m)).drop n))=true:=by
 have c:=QmS (k:=k) (m:=m) h
 unfold Wg at c ⊢
 rw[XaD]at c ⊢
 intro x b
 rcases Xag.1 b with b|b
 ·exact c x (XaE b)
 ·rcases Xag.1 b with b|b
  ·rw[Xbs b];exact hz
  ·exact c x (XaM b)
theorem Qxr{l:List Job}{k a n:Nat}{z:List D}(hk:k<l.length):List.take (l.length-1) ((List.take k (jobE l)++(List.drop (k+1) (jobE l)++List.drop (l.length-1) (jobE l))).take (l.length-1)++(List.replicate a z++(List.take k (jobE l)++(List.drop (k+1) (jobE l)++List.drop (l.length-1) (jobE l))).drop n))=jobE (l.eraseIdx k):=by
 have d:=Qj l
 have b:(List.take k (jobE l)++List.drop (k+1) (jobE l)).length=l.length-1:=by
  rw[Xab,Xah,XaP];omega
 have c:(List.take k (jobE l)++(List.drop (k+1) (jobE l)++List.drop (l.length-1) (jobE l))).take (l.length-1)=List.take k (jobE l)++List.drop (k+1) (jobE l):=by
  rw[<-Xao,Xbe (by omega),<-b,Xal]
 rw[c,Xbe (by omega),<-b,Xal,List.eraseIdx_eq_take_drop_succ]
 simp[jobE,List.map_take,List.map_drop]
theorem Ql1{l:List Job}{k:Nat}(hk:k<l.length)(hl:l.length<=1000000000):NCalls Tryz.prog 246 [.row 500000,zI k,zI ((k+1:Nat):Int)] [(500000,.row 40 (jobE l) true)] (fun _:Unit=>True) (fun _=>[.row 0]) (fun _=>[(0,.row 40 (jobE (l.eraseIdx k)) true)]):=by
 refine Ve tt func246 rfl rfl rfl (fun _ _=>rfl) (fun w0 Z O=>?_)
 have c:=Qj l
 have a:Wg (jobE l)=true:=QV fun _=>rfl
 have b:=QmS (k:=k) (m:=l.length-1) a
 repeat'(first|(refine zhm fun hb=>?_;try exact zab)|refine zUrd ?_|(apply zchE;exact zcg)|(apply zch;exact zcg)|exact zhk|refine zg3 ?_ ?_|(apply YV;first|(refine QOk.ok (QoU rfl rfl rfl rfl rfl rfl rfl rfl rfl rfl rfl (by omega) rfl ?_))|(refine Qrg (j:=k+1) (m:=l.length-1) rfl rfl rfl rfl rfl rfl ⟨rfl,rfl,rfl⟩ a c (by omega) (by omega) rfl ?_)|(refine QOk.ok (Qjb (n:=l.length) (i:=l.length-1) (j:=l.length) rfl rfl rfl rfl rfl (by simp;omega) rfl (by omega) rfl (by omega) (by omega) rfl ?_))|(refine Qd8 rfl rfl rfl rfl rfl ⟨rfl,rfl,rfl⟩ rfl rfl rfl rfl b (by omega) ?_))|refine zln fun _=>?_|refine zop ?_|intro _)
 show AWp _ _ _ _
 refine QnN 6 rfl rfl (QrH a) (by simp;omega) rfl ?_
 apply Qs
 refine zn () [500000] (by exact trivial) ?_ ?_
 repeat'(first|exact ze3|refine ze2 ?_ ?_|refine ze4 ?_|exact ze5|fail)
 all_goals exact zp (Qxr hk)
end
section
attribute [local irreducible] AWp QM OpOk ACalls ChA QsOk MCalls NCalls EnC PY
@[reducible] def W5 (s:Qb) (q1 q2:Nat):List AV:=[zL (intE s.topo.parents),zL (Qr s.topo.nodes),zL (Qk s.up),zI s.lic.a,zI s.lic.b,zI s.lic.c,zI s.depth,zI s.now,zL (jobE s.queue),.row q1,.row q2]
theorem Qnq{s:Qb}(hs:Qo 1000000000 s):MCalls Tryz.prog 210 [.agg (W5 s 1000000 1000001)] [(1000000,.row 66 (runE s.runs) false),(1000001,.row 123 (endE s.ends) true)] (fun _:Unit=>True) (fun _=>[Ws ((empO s).getD zR),.d (.b (empO s).isSome)]) (fun _=>[(1000000,.row 66 (runE s.runs) false),(1000001,.row 123 (endE s.ends) true)]) (fun _=>[]):=by
 refine Jb tt func210 rfl rfl rfl ⟨.inr (.inr rfl),.inl rfl,trivial⟩ (fun _ _=>⟨⟨⟨rfl,rfl,rfl⟩,⟨rfl,rfl,rfl⟩,trivial⟩,.inr (.inr rfl),.inl rfl,trivial⟩) (fun w0 Z O=>?_)
 have x:=Qq s.up
 have z:=Qw s.topo.nodes
 have ac:=hs.up
 have aa:=hs.nod
 have q:=ZW (t:=s.topo) hs.par hs.nod
 have r:=J9 (v:=s.lic)
 cases l:JB s.topo with
 | false=>
  rw[l]at q
  rw[Qgf (.inl l)]
  repeat'(first|(refine zhm fun hb=>?_;try exact zab)|refine zUrp ?_|refine zg2 ?_ ?_|intro _)
  exact zDR
 | true=>
  rw[l]at q
  by_cases o:s.up.length=s.topo.nodes.length
  ·cases g:Qh s.lic with
   | false=>
    rw[g]at r
    rw[Qgf (.inr (.inr g))]
    repeat'(first|(refine zhm fun hb=>?_;try exact zab)|refine zUrp ?_|refine zg2 ?_ ?_|intro _)
    exact zDR
   | true=>
    rw[g]at r
    have j:=J8.1 l
    have h4:=j.len
    have h5:=j.nlen
    have f:=WS j o g
    have p:(Jf s.topo s.up s.lic).profs=XI s.topo.nodes:=rfl
    rw[Qit j o g]
    repeat'(first|(refine zhm fun hb=>?_;try exact zab)|refine zUtp ?_|refine zg2 ?_ ?_|intro _)
    refine Qa (fun(k:Nat×List (List Pt))=>⟨65,[(1,.ptr 1 0),(2,.ptr 2 0),(4,.ptr 4 0),(37,zL (Qr s.topo.nodes)),(38,zI (s.topo.nodes.length:Nat)),(39,zI k.1)],[(1000000,.row 66 (runE s.runs) false),(1000001,.row 123 (endE s.ends) true),(1,.box 34 (W5 s 1000000 1000001)),(2,.box 180 [.nil,.nil,.nil,.nil,.nil]),(4,.box 180 [zL (intE s.topo.parents),zL (Qr s.topo.nodes),zL (Qk s.up),slN 53 (Q7 k.2),.nil])]++slO 53 178 (Q7 k.2)⟩) (fun k=>k.1<=s.topo.nodes.length/\k.2=XI (s.topo.nodes.take k.1)) (fun k=>s.topo.nodes.length-k.1) (0,[]) (by exact⟨Xae _,rfl⟩) ?_ ?_
    ·exact zll
    ·rintro ⟨n,e⟩ ⟨y,m⟩
     dsimp only at y m ⊢
     have ab:e.length=n:=by rw[m,XI,Xar,Xah];omega
     have w:=QB e
     by_cases i:n<s.topo.nodes.length
     ·have h:=XY i
      rw[<-m]at h
      have u:=j.nodes n i
      cases e with
      | nil=>
       repeat'(first|(refine zhm fun hb=>?_;try exact zab)|(refine Qi 8 46 rfl ?_)|refine zUtp ?_|refine zg2 ?_ ?_|refine kc (Yn (v:=(nth s.topo.nodes n).cap) u.2.2) rfl rfl ?_|intro _)
       refine⟨(n+1,[]++[[⟨0,(nth s.topo.nodes n).cap⟩]]),⟨by omega,h.symm⟩,by omega,?_⟩
       exact zll
      | cons p0 o0=>
       repeat'(first|(refine zhm fun hb=>?_;try exact zab)|(refine Qi 8 46 rfl ?_)|refine zUtp ?_|refine zg2 ?_ ?_|refine kc (Yn (v:=(nth s.topo.nodes n).cap) u.2.2) rfl rfl ?_|intro _)
       refine⟨(n+1,(p0::o0)++[[⟨0,(nth s.topo.nodes n).cap⟩]]),⟨by omega,h.symm⟩,by omega,?_⟩
       refine zag ?_;exact zp (Wd (p0::o0) _)
     ·have a:XI s.topo.nodes=e:=by rw[m,Xay (by omega)]
      cases e with
      | nil=>
       have c:=Qiw (tp:=s.topo) (up:=s.up) (li:=[⟨0,s.lic⟩]) (by unfold Jf at f;rw[show(s.topo.nodes.map fun n=>[(⟨0,n.cap⟩:Pt)])=[] from a]at f;exact f)
       unfold Jf
       rw[show(s.topo.nodes.map fun n=>[(⟨0,n.cap⟩:Pt)])=[] from a]
       repeat'(first|(refine zhm fun hb=>?_;try exact zab)|(refine Qi 11 59 rfl ?_)|refine zUrp ?_|refine zg2 ?_ ?_|refine kc (Yn (v:=s.lic) g) rfl rfl ?_|refine kmu c ?_|intro _)
       exact zDR
      | cons p0 o0=>
       have c:=QeR f (by rw[p,a];exact Xcq _)
       unfold Jf at c
       rw[show(s.topo.nodes.map fun n=>[(⟨0,n.cap⟩:Pt)])=p0::o0 from a]at c
       unfold Jf
       rw[show(s.topo.nodes.map fun n=>[(⟨0,n.cap⟩:Pt)])=p0::o0 from a]
       repeat'(first|(refine zhm fun hb=>?_;try exact zab)|(refine Qi 11 59 rfl ?_)|(refine Qi 11 53 rfl ?_)|refine zUrp ?_|refine zg2 ?_ ?_|refine kc (Yn (v:=s.lic) g) rfl rfl ?_|refine kmu c ?_|intro _)
       show AWp _ _ _ _
       refine Qp 64 rfl ?_
       exact zDR
  ·rw[Qgf (.inr (.inl o))]
   repeat'(first|(refine zhm fun hb=>?_;try exact zab)|refine zUrp ?_|refine zg2 ?_ ?_|intro _)
   any_goals
    show AWp _ _ _ _
    refine QA ?_
    apply Qs
    refine zm () [] trivial ?_ ?_ ?_
    repeat'(first|exact ze3|refine ze2 ?_ ?_|refine ze4 ?_|exact ze5|fail)
    all_goals exact zp rfl
theorem Qhp{s:Qb}(hs:Qo 1000000000 s):MCalls Tryz.prog 125 [.agg (W5 s 1000000 1000001)] [(1000000,.row 66 (runE s.runs) false),(1000001,.row 123 (endE s.ends) true)] (fun _:Unit=>True) (fun _=>(QaN (Jr s))) (fun _=>[(1000000,.row 66 (runE s.runs) false),(1000001,.row 123 (endE s.ends) true)]) (fun _=>[]):=by
 refine Jb tt func125 rfl rfl rfl ⟨.inr (.inr rfl),.inl rfl,trivial⟩ (fun _ _=>⟨⟨⟨rfl,rfl,rfl⟩,⟨rfl,rfl,rfl⟩,trivial⟩,.inr (.inr rfl),.inl rfl,trivial⟩) (fun w0 Z O=>?_)
 have o:=Qnq hs
 have y:=Wh (x:=s.now)
 by_cases c:Qfs s
 ·have h1:=c.up
  have z:=c.now
  have h3:=c.topo.nlen
  have h4:=c.topo.len
  rw[Qit c.topo c.up c.lic]at o
  rw[show inB s.now 0 1000000000=true by rw[J4];exact z]at y
  rw[Qg0 c]
  repeat'(first|(refine zhm fun hb=>?_;try exact zab)|refine zUtp ?_|refine zg2 ?_ ?_|(refine km [1000000,1000001] (o) rfl rfl (fun i hi=>?_);try dsimp only at hi)|intro _)
  refine Qa (fun(k:Nat×Jn)=>⟨93,[(1,.ptr 1 0),(2,.ptr 2 0),(4,.ptr 4 0),(27,.row 1000000),(28,zI (s.runs.length:Nat)),(29,zI k.1)],[(1000000,.row 66 (runE s.runs) false),(1000001,.row 123 (endE s.ends) true),(1,.box 34 (W5 s 1000000 1000001)),(2,.box 180 [.nil,.nil,.nil,.nil,.nil]),(4,.box 180 (QbV k.2))]⟩) (fun k=>GoP s k.1 k.2) (fun k=>s.runs.length-k.1) (0,Jf s.topo s.up s.lic) (by exact⟨Xae _,WS c.topo h1 c.lic,rfl⟩) ?_ ?_
  ·exact zll
  ·rintro ⟨n,r⟩ d
   dsimp only at d ⊢
   have ae:=d.le
   have af:=Qe s.runs
   by_cases e:n<s.runs.length
   ·have p:=QeM (j:=(nth s.runs n).job) (l:=(nth s.runs n).nodes) d.ok (hs.rno n e)
    cases g:(Qm (nth s.runs n).job&&Z4 r.topo (nth s.runs n).job (nth s.runs n).nodes) with
    | false=>
     rw[g]at p
     have m:Ww s.now s.runs (Jf s.topo s.up s.lic)=none:=by
      cases b:runB s.now (nth s.runs n) with
      | false=>exact Qp4 d e b
      | true=>
       refine Qqn d e ?_
       cases hj:Qm (nth s.runs n).job with
       | false=>exact Qd7 hj
       | true=>rw[hj,XbD]at g;exact Qea g
     rw[m]
     repeat'(first|(refine zhm fun hb=>?_;try exact zab)|refine zUr ?_|refine zg2 ?_ ?_|(apply YV;first|refine zom ?_|(apply QOk.ok;refine XL rfl rfl rfl rfl rfl rfl ?_))|refine zln fun _=>?_|refine zop ?_|refine zqj p ?_|fail)
     exact zDR
    | true=>
     rw[g]at p
     rw[Xac]at g
     obtain⟨k4,k5⟩:=YA g.1
     cases b:runB s.now (nth s.runs n) with
     | false=>
      rw[Qp4 d e b]
      by_cases ad:0<=(nth s.runs n).at'/\(nth s.runs n).at'<=1000000000
      ·have q:=Wh (x:=(nth s.runs n).at')
       repeat'(first|(refine zhm fun hb=>?_;try exact zab)|refine zUrn ?_|refine zg2 ?_ ?_|intro _)
       all_goals first
        | (exfalso;have:=(VZ (now:=s.now) (x:=nth s.runs n)).2 ⟨g.1,by omega,by omega,by omega⟩;rw[b]at this;cases this;done)
        | skip
       any_goals
        show AWp _ _ _ _
        refine QA ?_
        apply Qs
        refine zm () [] trivial ?_ ?_ ?_
        repeat'(first|exact ze3|refine ze2 ?_ ?_|refine ze4 ?_|exact ze5|fail)
        all_goals exact zp rfl
      ·have q:=Wh (x:=(nth s.runs n).at')
       rw[show inB (nth s.runs n).at' 0 1000000000=false by rw[Qnt];omega]at q
       repeat'(first|(refine zhm fun hb=>?_;try exact zab)|refine zUr ?_|refine zg2 ?_ ?_|(apply YV;first|refine zom ?_|(apply QOk.ok;refine XL rfl rfl rfl rfl rfl rfl ?_))|refine zln fun _=>?_|refine zon ?_|refine zqj p ?_|refine zqj q ?_|fail)
       exact zDR
     | true=>
      obtain⟨k1,k2,k3⟩:=VZ.1 b
      have q:=Wh (x:=(nth s.runs n).at')
      have f:=Qd2 (j:={ (nth s.runs n).job with wall:=(nth s.runs n).at'+(nth s.runs n).job.wall-s.now }) (a:=s.now) d.ok (hs.rno n e) z
      have v:Qm { (nth s.runs n).job with wall:=(nth s.runs n).at'+(nth s.runs n).job.wall-s.now }=true:=by
       have:=k1
       simp only[Qm,Xac,J4]at this ⊢
       exact⟨⟨this.1.1,by omega⟩,this.2⟩
      rw[QjF (j:=(nth s.runs n).job) k1 v rfl rfl rfl]at f
      dsimp only at f
      rw[show s.now+((nth s.runs n).at'+(nth s.runs n).job.wall-s.now)=(nth s.runs n).at'+(nth s.runs n).job.wall by omega]at f
      cases t:resO r (nth s.runs n).job s.now ((nth s.runs n).at'+(nth s.runs n).job.wall) (nth s.runs n).nodes with
      | none=>
       rw[t]at f
       rw[Qqn d e t]
       repeat'(first|(refine zhm fun hb=>?_;try exact zab)|refine zUrn ?_|refine zg2 ?_ ?_|refine kmu f ?_|intro _)
       exact zDR
      | some r'=>
       rw[t]at f
       have w:=QwC d e b t
       repeat'(first|(refine zhm fun hb=>?_;try exact zab)|refine zUrn ?_|refine zg2 ?_ ?_|refine kmu f ?_|intro _)
       exact⟨(n+1,r'),w,by dsimp only;omega,zll⟩
   ·rw[QvG d e]
    repeat'(first|(refine zhm fun hb=>?_;try exact zab)|refine zUrp ?_|refine zg2 ?_ ?_|intro _)
    exact zDR
 ·rw[Qg7 c]
  cases u:empO s with
  | none=>
   rw[u]at o
   repeat'(first|(refine zhm fun hb=>?_;try exact zab)|refine zUrp ?_|refine zg2 ?_ ?_|(refine km [1000000,1000001] (o) rfl rfl (fun i hi=>?_);try dsimp only at hi)|intro _)
   exact zDR
  | some r0=>
   rw[u]at o
   rw[show inB s.now 0 1000000000=false by
    rw[Qnt]
    rcases Classical.em (0<=s.now/\s.now<=1000000000)with h|h
    ·exact absurd (Qib.2 ⟨by rw[u];rfl,h⟩) c
    ·omega]at y
   repeat'(first|(refine zhm fun hb=>?_;try exact zab)|refine zUrp ?_|refine zg2 ?_ ?_|(refine km [1000000,1000001] (o) rfl rfl (fun i hi=>?_);try dsimp only at hi)|intro _)
   exact zDR
theorem Qer{s:Qb}(hs:Qo 100000000 s):DC Tryz.prog 46 [Qz s] [Qz s]:=dc_a (Q4 hs)
theorem Wv{s:Qb}(hs:Qo 100000000 s):DC Tryz.prog 127 [Qz s] [Qz s]:=dc_a (QjA hs)
theorem QeN{s:Qb}(hs:Qo 100000000 s):MCalls Tryz.prog 127 [Qz s] [] (fun _:Unit=>True) (fun _=>[.agg (W5 s 0 1)]) (fun _=>[]) (fun _=>[(0,.row 66 (runE s.runs) false),(1,.row 123 (endE s.ends) true)]):=by
 refine zMC func127 fun w0 Z O=>?_
 have hl:=Qe s.runs
 have h1:=hs.par;have h2:=hs.nod;have h3:=hs.up;have h4:=hs.que;have h5:=hs.run;have h6:=hs.end'
 repeat'(first|(refine zhm fun hb=>?_;try exact zab)|(refine Qi 2 6 rfl ?_)|(refine Qi 2 11 rfl ?_)|(refine Qi 3 18 rfl ?_)|(refine Qi 4 23 rfl ?_)|refine Qd ?_|(apply zch;exact zcg)|exact zhk|refine zg3 ?_ ?_|intro _)
 refine Qa (fun(k:Nat)=>⟨54,[(1,.ptr 1 0),(2,.ptr 2 0),(3,.row 28),(30,zL (runE s.runs)),(31,zI (s.runs.length:Nat)),(32,zI k)],[(28,.row 66 (runE (s.runs.take k)) true),(1,.box 34 (JI s)),(2,.box 34 [.nil,.nil,.nil,zI 0,zI 0,zI 0,zI 0,zI 0,.nil,.nil,.nil])]⟩) (fun k=>k<=s.runs.length) (fun k=>s.runs.length-k) 0 (by exact Xae _) ?_ ?_
 ·exact zll
 ·intro k hk
  have e:(runE (s.runs.take k)).length=k:=by rw[Qe,Xah];omega
  by_cases d:k<s.runs.length
  ·have hn:=hs.rno k d
   repeat'(first|(refine zhm fun hb=>?_;try exact zab)|refine zUtd ?_|(apply zch;exact zcg)|exact zhk|refine zg3 ?_ ?_|(apply YV;first|(refine VI rfl rfl rfl ⟨rfl,rfl,rfl⟩ rfl rfl rfl rfl rfl rfl rfl rfl (QV fun _=>rfl) rfl rfl rfl rfl rfl ?_)|(refine Yb rfl rfl rfl rfl rfl rfl rfl rfl ⟨rfl,rfl,rfl⟩ e (rfl:_=1) (by omega) rfl rfl ?_))|refine zln fun _=>?_|refine zop ?_|intro _)
   refine⟨k+1,by omega,by omega,?_⟩
   refine zag ?_;exact zp (Vd d)
  ·obtain rfl:k=s.runs.length:=by omega
   repeat'(first|(refine zhm fun hb=>?_;try exact zab)|refine Q2 ?_|(apply zch;exact zcg)|exact zhk|refine zg3 ?_ ?_|intro _)
   show AWp _ _ _ _
   refine WW 28 rfl ?_
   show AWp _ _ _ _
   refine QA ?_
   apply Qs
   refine zm () [28,48] trivial ?_ ?_ ?_
   repeat'(first|exact ze3|refine ze2 ?_ ?_|refine ze4 ?_|exact ze5|fail)
   all_goals exact zp (by first|rfl|rw[Xal])
@[reducible] def QvP (s:Qb) (q0 q1 q2:Nat):List AV:=[zL (intE s.topo.parents),zL (Qr s.topo.nodes),zL (Qk s.up),zI s.lic.a,zI s.lic.b,zI s.lic.c,zI s.depth,zI s.now,.row q0,.row q1,.row q2]
@[reducible] def QwL (s:Qb) (q0:Nat):List AV:=[zL (intE s.topo.parents),zL (Qr s.topo.nodes),zL (Qk s.up),zI s.lic.a,zI s.lic.b,zI s.lic.c,zI s.depth,zI s.now,.row q0,zL (runE s.runs),zL (endE s.ends)]
theorem QpC{s:Qb}(hs:Qo 100000000 s):MCalls Tryz.prog 127 [Qz s] [] (fun _:Unit=>True) (fun _=>[.agg (QvP s 0 1 2)]) (fun _=>[]) (fun _=>[(0,.row 40 (jobE s.queue) true),(1,.row 66 (runE s.runs) false),(2,.row 123 (endE s.ends) true)]):=by
 refine zMC func127 fun w0 Z O=>?_
 have hl:=Qe s.runs
 have h1:=hs.par;have h2:=hs.nod;have h3:=hs.up;have h4:=hs.que;have h5:=hs.run;have h6:=hs.end'
 repeat'(first|(refine zhm fun hb=>?_;try exact zab)|(refine Qi 2 6 rfl ?_)|(refine Qi 2 11 rfl ?_)|(refine Qi 3 18 rfl ?_)|refine Qd ?_|(apply zch;exact zcg)|exact zhk|refine zg3 ?_ ?_|intro _)
 refine Qa (fun(k:Nat)=>⟨54,[(1,.ptr 1 0),(2,.ptr 2 0),(3,.row 28),(30,zL (runE s.runs)),(31,zI (s.runs.length:Nat)),(32,zI k)],[(28,.row 66 (runE (s.runs.take k)) true),(23,.row 40 (jobE s.queue) true),(1,.box 34 (QwL s 23)),(2,.box 34 [.nil,.nil,.nil,zI 0,zI 0,zI 0,zI 0,zI 0,.nil,.nil,.nil])]⟩) (fun k=>k<=s.runs.length) (fun k=>s.runs.length-k) 0 (by exact Xae _) ?_ ?_
 ·exact zll
 ·intro k hk
  have b:(runE (s.runs.take k)).length=k:=by rw[Qe,Xah];omega
  by_cases a:k<s.runs.length
  ·have hn:=hs.rno k a
   repeat'(first|(refine zhm fun hb=>?_;try exact zab)|refine zUtd ?_|(apply zch;exact zcg)|exact zhk|refine zg3 ?_ ?_|(apply YV;first|(refine VI rfl rfl rfl ⟨rfl,rfl,rfl⟩ rfl rfl rfl rfl rfl rfl rfl rfl (QV fun _=>rfl) rfl rfl rfl rfl rfl ?_)|(refine Yb rfl rfl rfl rfl rfl rfl rfl rfl ⟨rfl,rfl,rfl⟩ b (rfl:_=1) (by omega) rfl rfl ?_))|refine zln fun _=>?_|refine zop ?_|intro _)
   refine⟨k+1,by omega,by omega,?_⟩
   refine zag ?_;exact zp (Vd a)
  ·obtain rfl:k=s.runs.length:=by omega
   repeat'(first|(refine zhm fun hb=>?_;try exact zab)|refine Q2 ?_|(apply zch;exact zcg)|exact zhk|refine zg3 ?_ ?_|intro _)
   show AWp _ _ _ _
   refine WW 28 rfl ?_
   show AWp _ _ _ _
   refine QA ?_
   apply Qs
   refine zm () [23,28,48] trivial ?_ ?_ ?_
   repeat'(first|exact ze3|refine ze2 ?_ ?_|refine ze4 ?_|exact ze5|fail)
   all_goals exact zp (by first|rfl|rw[Xal])
@[reducible] def QqG (s:Qb) (u q:AV) (q2:Nat):List AV:=[zL (intE s.topo.parents),zL (Qr s.topo.nodes),u,zI s.lic.a,zI s.lic.b,zI s.lic.c,zI s.depth,zI s.now,q,zL (runE s.runs),.row q2]
@[reducible] def QvK (s:Qb) (u q:AV):List AV:=[zL (intE s.topo.parents),zL (Qr s.topo.nodes),u,zI s.lic.a,zI s.lic.b,zI s.lic.c,zI s.depth,zI s.now,q,zL (runE s.runs),zL (endE s.ends)]
theorem Qp3{s:Qb}(hs:Qo 100000000 s):MCalls Tryz.prog 127 [Qz s] [] (fun _:Unit=>True) (fun _=>[.agg (QqG s (.row 0) (.row 1) 2)]) (fun _=>[]) (fun _=>[(0,.row 4 (Qk s.up) true),(1,.row 40 (jobE s.queue) true),(2,.row 123 (endE s.ends) true)]):=by
 refine zMC func127 fun w0 Z O=>?_
 have hl:=Qe s.runs
 have h1:=hs.par;have h2:=hs.nod;have h3:=hs.up;have h4:=hs.que;have h5:=hs.run;have h6:=hs.end'
 repeat'(first|(refine zhm fun hb=>?_;try exact zab)|(refine Qi 2 6 rfl ?_)|(refine Qi 2 11 rfl ?_)|refine Qd ?_|(apply zch;exact zcg)|exact zhk|refine zg3 ?_ ?_|intro _)
 refine Qa (fun(k:Nat)=>⟨54,[(1,.ptr 1 0),(2,.ptr 2 0),(3,.row 28),(30,zL (runE s.runs)),(31,zI (s.runs.length:Nat)),(32,zI k)],[(28,.row 66 (runE (s.runs.take k)) true),(18,.row 4 (Qk s.up) true),(23,.row 40 (jobE s.queue) true),(1,.box 34 (QvK s (.row 18) (.row 23))),(2,.box 34 [.nil,.nil,.nil,zI 0,zI 0,zI 0,zI 0,zI 0,.nil,.nil,.nil])]⟩) (fun k=>k<=s.runs.length) (fun k=>s.runs.length-k) 0 (by exact Xae _) ?_ ?_
 ·exact zll
 ·intro k hk
  have b:(runE (s.runs.take k)).length=k:=by rw[Qe,Xah];omega
  by_cases a:k<s.runs.length
  ·have hn:=hs.rno k a
   repeat'(first|(refine zhm fun hb=>?_;try exact zab)|refine zUtd ?_|(apply zch;exact zcg)|exact zhk|refine zg3 ?_ ?_|(apply YV;first|(refine VI rfl rfl rfl ⟨rfl,rfl,rfl⟩ rfl rfl rfl rfl rfl rfl rfl rfl (QV fun _=>rfl) rfl rfl rfl rfl rfl ?_)|(refine Yb rfl rfl rfl rfl rfl rfl rfl rfl ⟨rfl,rfl,rfl⟩ b (rfl:_=1) (by omega) rfl rfl ?_))|refine zln fun _=>?_|refine zop ?_|intro _)
   refine⟨k+1,by omega,by omega,?_⟩
   refine zag ?_;exact zp (Vd a)
  ·obtain rfl:k=s.runs.length:=by omega
   rw[Xal]
   repeat'(first|(refine zhm fun hb=>?_;try exact zab)|refine Q2 ?_|(apply zch;exact zcg)|exact zhk|refine zg3 ?_ ?_|intro _)
   show AWp _ _ _ _
   refine Qp 28 rfl ?_
   show AWp _ _ _ _
   refine QA ?_
   apply Qs
   exact zm () [18,23,48] trivial zae zae zae
theorem Qi7{s:Qb}(hs:Qo 100000000 s):MCalls Tryz.prog 127 [Qz s] [] (fun _:Unit=>True) (fun _=>[.agg (QqG s (zL (Qk s.up)) (zL (jobE s.queue)) 0)]) (fun _=>[]) (fun _=>[(0,.row 123 (endE s.ends) true)]):=by
 refine zMC func127 fun w0 Z O=>?_
 have hl:=Qe s.runs
 have h1:=hs.par;have h2:=hs.nod;have h3:=hs.up;have h4:=hs.que;have h5:=hs.run;have h6:=hs.end'
 repeat'(first|(refine zhm fun hb=>?_;try exact zab)|(refine Qi 2 6 rfl ?_)|(refine Qi 2 11 rfl ?_)|(refine Qi 3 18 rfl ?_)|(refine Qi 4 23 rfl ?_)|refine Qd ?_|(apply zch;exact zcg)|exact zhk|refine zg3 ?_ ?_|intro _)
 refine Qa (fun(k:Nat)=>⟨54,[(1,.ptr 1 0),(2,.ptr 2 0),(3,.row 28),(30,zL (runE s.runs)),(31,zI (s.runs.length:Nat)),(32,zI k)],[(28,.row 66 (runE (s.runs.take k)) true),(1,.box 34 (JI s)),(2,.box 34 [.nil,.nil,.nil,zI 0,zI 0,zI 0,zI 0,zI 0,.nil,.nil,.nil])]⟩) (fun k=>k<=s.runs.length) (fun k=>s.runs.length-k) 0 (by exact Xae _) ?_ ?_
 ·exact zll
 ·intro k hk
  have b:(runE (s.runs.take k)).length=k:=by rw[Qe,Xah];omega
  by_cases a:k<s.runs.length
  ·have hn:=hs.rno k a
   repeat'(first|(refine zhm fun hb=>?_;try exact zab)|refine zUtd ?_|(apply zch;exact zcg)|exact zhk|refine zg3 ?_ ?_|(apply YV;first|(refine VI rfl rfl rfl ⟨rfl,rfl,rfl⟩ rfl rfl rfl rfl rfl rfl rfl rfl (QV fun _=>rfl) rfl rfl rfl rfl rfl ?_)|(refine Yb rfl rfl rfl rfl rfl rfl rfl rfl ⟨rfl,rfl,rfl⟩ b (rfl:_=1) (by omega) rfl rfl ?_))|refine zln fun _=>?_|refine zop ?_|intro _)
   refine⟨k+1,by omega,by omega,?_⟩
   refine zag ?_;exact zp (Vd a)
  ·obtain rfl:k=s.runs.length:=by omega
   rw[Xal]
   repeat'(first|(refine zhm fun hb=>?_;try exact zab)|refine Q2 ?_|(apply zch;exact zcg)|exact zhk|refine zg3 ?_ ?_|intro _)
   show AWp _ _ _ _
   refine Qp 28 rfl ?_
   show AWp _ _ _ _
   refine QA ?_
   apply Qs
   exact zm () [48] trivial zae zae zae
theorem Qe4{s:Qb}(hs:Qo 100000000 s):MCalls Tryz.prog 46 [Qz s] [] (fun _:Unit=>True) (fun _=>[.agg (QqG s (.row 0) (.row 1) 2)]) (fun _=>[]) (fun _=>[(0,.row 4 (Qk s.up) true),(1,.row 40 (jobE s.queue) true),(2,.row 123 (endE s.ends) true)]):=by
 refine zMC func46 fun w0 Z O=>?_
 have hl:=Qe s.runs
 have h1:=hs.par;have h2:=hs.nod;have h3:=hs.up;have h4:=hs.que;have h5:=hs.run;have h6:=hs.end'
 repeat'(first|(refine zhm fun hb=>?_;try exact zab)|refine zUtp ?_|refine zg2 ?_ ?_|refine kmu (XS (t:=s.topo) (by omega) (by omega)) ?_|intro _)
 refine Zn 3 3 66 rfl rfl rfl ?_
 refine Qa (fun(k:Nat)=>⟨41,[(1,.ptr 1 0),(2,.ptr 2 0),(3,.row 3),(19,zL (runE s.runs)),(20,zI (s.runs.length:Nat)),(21,zI k)],[(3,.row 66 (runE (s.runs.take k)) true),(12,.row 4 (Qk s.up) true),(16,.row 40 (jobE s.queue) true),(1,.box 34 (QvK s (.row 12) (.row 16))),(2,.box 34 [.nil,.nil,.nil,zI 0,zI 0,zI 0,zI 0,zI 0,.nil,.nil,.nil])]⟩) (fun k=>k<=s.runs.length) (fun k=>s.runs.length-k) 0 (by exact Xae _) ?_ ?_
 ·exact zll
 ·intro k hk
  have b:(runE (s.runs.take k)).length=k:=by rw[Qe,Xah];omega
  by_cases a:k<s.runs.length
  ·have hn:=hs.rno k a
   repeat'(first|(refine zhm fun hb=>?_;try exact zab)|refine zUt ?_|refine zg2 ?_ ?_|(apply YV;first|(refine VI rfl rfl rfl ⟨rfl,rfl,rfl⟩ rfl rfl rfl rfl rfl rfl rfl rfl (QV fun _=>rfl) rfl rfl rfl rfl rfl ?_)|(refine Yb rfl rfl rfl rfl rfl rfl rfl rfl ⟨rfl,rfl,rfl⟩ b (rfl:_=1) (by omega) rfl rfl ?_))|refine zln fun _=>?_|refine zop ?_|refine kc (WM (l:=(nth s.runs k).nodes) (by omega)) rfl rfl ?_|fail)
   refine⟨k+1,by omega,by omega,?_⟩
   refine zag ?_;exact zp (Vd a)
  ·obtain rfl:k=s.runs.length:=by omega
   rw[Xal]
   repeat'(first|(refine zhm fun hb=>?_;try exact zab)|refine zUrp ?_|refine zg2 ?_ ?_|intro _)
   show AWp _ _ _ _
   refine Qp 3 rfl ?_
   show AWp _ _ _ _
   refine QA ?_
   apply Qs
   exact zm () [12,16,38] trivial zae zae zae
theorem Qe2{s:Qb}(hs:Qo 100000000 s):MCalls Tryz.prog 46 [Qz s] [] (fun _:Unit=>True) (fun _=>[.agg (QqG s (zL (Qk s.up)) (.row 0) 1)]) (fun _=>[]) (fun _=>[(0,.row 40 (jobE s.queue) true),(1,.row 123 (endE s.ends) true)]):=by
 refine zMC func46 fun w0 Z O=>?_
 have hl:=Qe s.runs
 have h1:=hs.par;have h2:=hs.nod;have h3:=hs.up;have h4:=hs.que;have h5:=hs.run;have h6:=hs.end'
 repeat'(first|(refine zhm fun hb=>?_;try exact zab)|(refine Qi 3 12 rfl ?_)|refine zUtp ?_|refine zg2 ?_ ?_|refine kmu (XS (t:=s.topo) (by omega) (by omega)) ?_|intro _)
 refine Zn 3 3 66 rfl rfl rfl ?_
 refine Qa (fun(k:Nat)=>⟨41,[(1,.ptr 1 0),(2,.ptr 2 0),(3,.row 3),(19,zL (runE s.runs)),(20,zI (s.runs.length:Nat)),(21,zI k)],[(3,.row 66 (runE (s.runs.take k)) true),(16,.row 40 (jobE s.queue) true),(1,.box 34 (QvK s (zL (Qk s.up)) (.row 16))),(2,.box 34 [.nil,.nil,.nil,zI 0,zI 0,zI 0,zI 0,zI 0,.nil,.nil,.nil])]⟩) (fun k=>k<=s.runs.length) (fun k=>s.runs.length-k) 0 (by exact Xae _) ?_ ?_
 ·exact zll
 ·intro k hk
  have b:(runE (s.runs.take k)).length=k:=by rw[Qe,Xah];omega
  by_cases a:k<s.runs.length
  ·have hn:=hs.rno k a
   repeat'(first|(refine zhm fun hb=>?_;try exact zab)|refine zUt ?_|refine zg2 ?_ ?_|(apply YV;first|(refine VI rfl rfl rfl ⟨rfl,rfl,rfl⟩ rfl rfl rfl rfl rfl rfl rfl rfl (QV fun _=>rfl) rfl rfl rfl rfl rfl ?_)|(refine Yb rfl rfl rfl rfl rfl rfl rfl rfl ⟨rfl,rfl,rfl⟩ b (rfl:_=1) (by omega) rfl rfl ?_))|refine zln fun _=>?_|refine zop ?_|refine kc (WM (l:=(nth s.runs k).nodes) (by omega)) rfl rfl ?_|fail)
   refine⟨k+1,by omega,by omega,?_⟩
   refine zag ?_;exact zp (Vd a)
  ·obtain rfl:k=s.runs.length:=by omega
   rw[Xal]
   repeat'(first|(refine zhm fun hb=>?_;try exact zab)|refine zUrp ?_|refine zg2 ?_ ?_|intro _)
   show AWp _ _ _ _
   refine Qp 3 rfl ?_
   show AWp _ _ _ _
   refine QA ?_
   apply Qs
   exact zm () [16,38] trivial zae zae zae
end
section

def Qmr(s:Qb):List D:=[.sl (intE s.topo.parents),.sl (Qr s.topo.nodes),.sl (Qk s.up),.n .i64 s.lic.a,.n .i64 s.lic.b,.n .i64 s.lic.c,.n .i64 s.depth,.n .i64 s.now,.sl (jobE s.queue),.sl (runE s.runs),.sl (endE s.ends)]
theorem Qhb{W:World}{n:Nat}{ds:List D}(h:TyD ⟨Tryz.prog,W,fun _=>true,NoZ,NoB,tt⟩ (n+25) 79 ds):∃s:Qb,ds=Qmr s/\Qo 9223372036854775807 s:=by
 obtain⟨_,_,rfl,⟨_,_,rfl,⟨e1,rfl,w,q1⟩,_,_,rfl,⟨e2,rfl,l2,q2⟩,rfl⟩,_,_,rfl,⟨e3,rfl,l3,q3⟩,_,_,rfl,⟨_,_,rfl,⟨a,rfl,_⟩,_,_,rfl,⟨b,rfl,_⟩,_,_,rfl,⟨c,rfl,_⟩,rfl⟩,_,_,rfl,⟨dp,rfl,_⟩,_,_,rfl,⟨nw,rfl,_⟩,_,_,rfl,⟨e4,rfl,l4,q4⟩,_,_,rfl,⟨e5,rfl,l5,q5⟩,_,_,rfl,⟨e6,rfl,l6,q6⟩,rfl⟩:=h
 obtain⟨p1,rfl,_⟩:=Qao (f:=fun x:Int=>([.n .i64 x]:List D)) (p:=fun _=>True) (es:=e1) fun q hq=>by
  obtain⟨z,rfl,_⟩:=q1 q hq
  exact⟨z,rfl,trivial⟩
 obtain⟨p2,rfl,_⟩:=Qao (f:=fun n:Qar=>([.n .i64 n.leaf,.n .i64 n.cap.a,.n .i64 n.cap.b,.n .i64 n.cap.c]:List D)) (p:=fun _=>True) (es:=e2) fun q hq=>by
  obtain⟨_,_,rfl,⟨z,rfl,_⟩,_,_,rfl,⟨_,_,rfl,⟨x,rfl,_⟩,_,_,rfl,⟨y,rfl,_⟩,_,_,rfl,⟨u,rfl,_⟩,rfl⟩,rfl⟩:=q2 q hq
  exact⟨⟨z,⟨x,y,u⟩⟩,rfl,trivial⟩
 obtain⟨p3,rfl,_⟩:=Qao (f:=fun x:Bool=>([.b x]:List D)) (p:=fun _=>True) (es:=e3) fun q hq=>by
  obtain⟨z,rfl⟩:=q3 q hq
  exact⟨z,rfl,trivial⟩
 obtain⟨p4,rfl,_⟩:=Qao (f:=jobD) (p:=fun _=>True) (es:=e4) fun q hq=>by
  obtain⟨_,_,rfl,⟨i,rfl,_⟩,_,_,rfl,⟨l,rfl,_⟩,_,_,rfl,⟨k,rfl,_⟩,_,_,rfl,⟨_,_,rfl,⟨x,rfl,_⟩,_,_,rfl,⟨y,rfl,_⟩,_,_,rfl,⟨z,rfl,_⟩,rfl⟩,_,_,rfl,⟨_,_,rfl,⟨o,rfl,_⟩,_,_,rfl,⟨t,rfl,_⟩,_,_,rfl,⟨v,rfl,_⟩,rfl⟩,_,_,rfl,⟨m,rfl,_⟩,_,_,rfl,⟨g,rfl,_⟩,rfl⟩:=q4 q hq
  exact⟨⟨i,l,k,⟨x,y,z⟩,⟨o,t,v⟩,m,g⟩,rfl,trivial⟩
 obtain⟨p5,rfl,g5⟩:=Qao (f:=runD) (p:=fun r=>r.nodes.length<=9223372036854775807) (es:=e5) fun q hq=>by
  obtain⟨_,_,rfl,⟨_,_,rfl,⟨i,rfl,_⟩,_,_,rfl,⟨l,rfl,_⟩,_,_,rfl,⟨k,rfl,_⟩,_,_,rfl,⟨_,_,rfl,⟨x,rfl,_⟩,_,_,rfl,⟨y,rfl,_⟩,_,_,rfl,⟨z,rfl,_⟩,rfl⟩,_,_,rfl,⟨_,_,rfl,⟨o,rfl,_⟩,_,_,rfl,⟨t,rfl,_⟩,_,_,rfl,⟨v,rfl,_⟩,rfl⟩,_,_,rfl,⟨m,rfl,_⟩,_,_,rfl,⟨g,rfl,_⟩,rfl⟩,_,_,rfl,⟨at',rfl,_⟩,_,_,rfl,⟨es,rfl,d,qq⟩,rfl⟩:=q5 q hq
  obtain⟨ns,rfl,_⟩:=Qao (f:=fun x:Int=>([.n .i64 x]:List D)) (p:=fun _=>True) (es:=es) fun q hq=>by
   obtain⟨z,rfl,_⟩:=qq q hq
   exact⟨z,rfl,trivial⟩
  exact⟨⟨⟨i,l,k,⟨x,y,z⟩,⟨o,t,v⟩,m,g⟩,at',ns⟩,rfl,by rw[Xar]at d;exact d⟩
 obtain⟨p6,rfl,_⟩:=Qao (f:=fun e:QbO=>([.n .i64 e.id,.n .i64 e.at',.n .i64 e.why]:List D)) (p:=fun _=>True) (es:=e6) fun q hq=>by
  obtain⟨_,_,rfl,⟨x,rfl,_⟩,_,_,rfl,⟨y,rfl,_⟩,_,_,rfl,⟨z,rfl,_⟩,rfl⟩:=q6 q hq
  exact⟨⟨x,y,z⟩,rfl,trivial⟩
 rw[Xar]at w l2 l3 l4 l5 l6
 exact⟨⟨⟨p1,p2⟩,p3,⟨a,b,c⟩,dp,nw,p4,p5,p6⟩,rfl,⟨w,l2,l3,l4,l5,l6,fun j hj=>g5 _ (QE hj)⟩⟩
end
end Go.Proofs.YtkdniahincpmaaaGreat
