/-
  The library's Delete, at jobs.
-/
import Derived.Test.YtihgfennoalocaaGreatKB19
set_option maxRecDepth 100000
set_option maxHeartbeats 16000000
namespace Go.Proofs.YtihgfennoalocaaGreat
open Go Go.RowKit Tryz
section
section
variable {X:Cx} {σ:AS} {o:Oper} {K:AS->Prop} {t:Nat}
theorem Qpt{T e:TypeId}{x lo hi mx:Operand}{p i j m:Nat}{es:List (List D)}{dp:Bool}{u v q:Int}[te:TI X.P e](ho:o.op=.slice T x (some lo) (some hi) (some mx))(hd:o.dst=some t)(hT:Ju X T=some e)(hx:σ.ev x=.row p)(hp:Qm σ.ob p=some (.row e es dp))
  (hlo:σ.ev lo=zI u) (hi':u=(i:Int)) (hhi:σ.ev hi=zI v) (hj:v=(j:Int)) (hmx:σ.ev mx=zI q) (hm:q=(m:Int)) (hb:i<=j/\j<=m/\m<=es.length) (ht:Nat.blt t σ.nt=true) (hK:K (σ.put t .any)):QOk X o σ K:=by
 subst hi';subst hj;subst hm
 refine Je hd ht (fun a w en h=>?_) hK
 have hu:=QL hT
 obtain⟨y,hy,hyn,hya,A,c,g1,g2,g4,g5,g6⟩:=Qa2 h hp
 obtain⟨y',hy',e1,e2,e3⟩:=QP h hx
 have:=h.mem.ent_unique hy' hy (e1.trans hyn.symm)
 subst this
 obtain⟨F1,⟨f1,_⟩,_⟩:=QP h hlo
 obtain⟨F2,⟨f2,_⟩,_⟩:=QP h hhi
 obtain⟨F3,⟨f3,_⟩,_⟩:=QP h hmx
 obtain⟨q,h12,_,h13,_⟩:=te.parts
 have hbnd:∀w':World,(Instr.sliceBounds true es.length c (some (.int .i64 i)) (some (.int .i64 j)) (some (.int .i64 m))).run X.P w'=.ok (i,j,m) w':=fun w'=>by
  have b:∀(x y:Nat) (c:BoundsCode) (w:World),x<=y->(Instr.sliceBound (.int .i64 (x:Int)) y c).run X.P w=.ok x w:=fun x y c w h=>by
   rw[run_sliceBound w .i64 x y c (by omega) (by omega)];simp
  have h1:m<=c:=by omega
  simp[Instr.sliceBounds, *]
 rw[g1]at e3
 refine⟨.slice (if m=i then A else A.map (·.add (i*te.size))) (j-i) (m-i),fun w' _=>?_,trivial⟩
 simp only[execOp,ho,e3,XaT,f1,f2,f3,Instr.sliceAt,Sem.run_bind,run_underlying hu,Instr.slice,hbnd w',sizeOf,typeInfo,run_program,h12,h13,Sem.run_pure,Result.andThen]
end
attribute [local irreducible] AWp QJ OpOk ACalls ChA QsOk MCalls NCalls EnC PY
theorem QjY{E:List (List D)}{k m:Nat}(h:YT E=true):YT (E.take k++(E.drop (k+1)++E.drop m))=true:=by
 unfold YT at *
 rw[XaD]at *
 intro x hx
 rcases Xag.1 hx with hx|hx
 ·exact h x (XaC hx)
 ·rcases Xag.1 hx with hx|hx
  ·exact h x (XaK hx)
  ·exact h x (XaK hx)
theorem Qoy{E:List (List D)}{z:List D}{k m a i n:Nat}(h:YT E=true)(hz:z.all D.flat1=true:=by rfl):YT ((E.take k++(E.drop (k+1)++E.drop m)).take i++(List.replicate a z++(E.take k++(E.drop (k+1)++E.drop m)).drop n))=true:=by
 have h1:=QjY (k:=k) (m:=m) h
 unfold YT at h1 ⊢
 rw[XaD]at h1 ⊢
 intro x hx
 rcases Xag.1 hx with hx|hx
 ·exact h1 x (XaC hx)
 ·rcases Xag.1 hx with hx|hx
  ·rw[Xbn hx];exact hz
  ·exact h1 x (XaK hx)
theorem Qu5{l:List Job}{k a n:Nat}{z:List D}(hk:k<l.length):List.take (l.length-1) ((List.take k (jobE l)++(List.drop (k+1) (jobE l)++List.drop (l.length-1) (jobE l))).take (l.length-1)++(List.replicate a z++(List.take k (jobE l)++(List.drop (k+1) (jobE l)++List.drop (l.length-1) (jobE l))).drop n))=jobE (l.eraseIdx k):=by
 have hle:=Qk l
 have h1:(List.take k (jobE l)++List.drop (k+1) (jobE l)).length=l.length-1:=by
  rw[Xac,Xai,XaN];omega
 have h2:(List.take k (jobE l)++(List.drop (k+1) (jobE l)++List.drop (l.length-1) (jobE l))).take (l.length-1)=List.take k (jobE l)++List.drop (k+1) (jobE l):=by
  rw[<-Xaq,Xa8 (by omega),<-h1,Xap]
 rw[h2,Xa8 (by omega),<-h1,Xap,List.eraseIdx_eq_take_drop_succ]
 simp[jobE,List.map_take,List.map_drop]
theorem Qkh{l:List Job}{k:Nat}(hk:k<l.length)(hl:l.length<=1000000000):NCalls Tryz.prog 257 [.row 500000,zI k,zI ((k+1:Nat):Int)] [(500000,.row 72 (jobE l) true)] (fun _:Unit=>True) (fun _=>[.row 0]) (fun _=>[(0,.row 72 (jobE (l.eraseIdx k)) true)]):=by
 refine Ve tt func257 rfl rfl rfl (fun _ _=>rfl) (fun w0 Z O=>?_)
 have hle:=Qk l
 have hfl:YT (jobE l)=true:=QN fun _=>rfl
 have hfd:=QjY (k:=k) (m:=l.length-1) hfl
 repeat'(first|(refine zhm fun hb=>?_;try exact zab)|refine zUrd ?_|(apply zchE;exact zcg)|(apply zch;exact zcg)|exact zhk|refine zg3 ?_ ?_|(apply YE;first|(refine QOk.ok (Qpt rfl rfl rfl rfl rfl rfl rfl rfl rfl rfl rfl (by omega) rfl ?_))|(refine Qpu (j:=k+1) (m:=l.length-1) rfl rfl rfl rfl rfl rfl ⟨rfl,rfl,rfl⟩ hfl hle (by omega) (by omega) rfl ?_)|(refine QOk.ok (Qhm (n:=l.length) (i:=l.length-1) (j:=l.length) rfl rfl rfl rfl rfl (by simp;omega) rfl (by omega) rfl (by omega) (by omega) rfl ?_))|(refine Qdl rfl rfl rfl rfl rfl ⟨rfl,rfl,rfl⟩ rfl rfl rfl rfl hfd (by omega) ?_))|refine zln fun _=>?_|refine zop ?_|intro _|fail)
 show AWp _ _ _ _
 refine Ql1 6 rfl rfl (Qoy hfl) (by simp;omega) rfl ?_
 apply Qt
 refine zn () [500000] (by exact trivial) ?_ ?_
 repeat'(first|exact ze3|refine ze2 ?_ ?_|refine ze4 ?_|exact ze5|fail)
 all_goals exact zp (Qu5 hk)
end
section
attribute [local irreducible] AWp QJ OpOk ACalls ChA QsOk MCalls NCalls EnC PY
@[reducible] def Wu (s:Qd) (q1 q2:Nat):List AV:=[zL (intE s.topo.parents),zL (Qz s.topo.nodes),zL (Qq s.up),zI s.lic.a,zI s.lic.b,zI s.lic.c,zI s.depth,zI s.now,zL (jobE s.queue),.row q1,.row q2]
theorem QlS{s:Qd}(hs:Ql 1000000000 s):MCalls Tryz.prog 223 [.agg (Wu s 1000000 1000001)] [(1000000,.row 170 (runE s.runs) false),(1000001,.row 172 (endE s.ends) true)] (fun _:Unit=>True) (fun _=>[Y7 ((empO s).getD zR),.d (.b (empO s).isSome)]) (fun _=>[(1000000,.row 170 (runE s.runs) false),(1000001,.row 172 (endE s.ends) true)]) (fun _=>[]):=by
 refine Ji tt func223 rfl rfl rfl ⟨.inr (.inr rfl),.inl rfl,trivial⟩ (fun _ _=>⟨⟨⟨rfl,rfl,rfl⟩,⟨rfl,rfl,rfl⟩,trivial⟩,.inr (.inr rfl),.inl rfl,trivial⟩) (fun w0 Z O=>?_)
 have hbl:=Qo s.up
 have hnl:=Qr s.topo.nodes
 have hup:=hs.up
 have hno:=hs.nod
 have c1:=Zb (t:=s.topo) hs.par hs.nod
 have c2:=JV (v:=s.lic)
 cases h1:Jq s.topo with
 | false=>
  rw[h1]at c1
  rw[Qe4 (.inl h1)]
  repeat'(first|(refine zhm fun hb=>?_;try exact zab)|refine zUrp ?_|refine zg2 ?_ ?_|intro _|fail)
  exact zDR
 | true=>
  rw[h1]at c1
  by_cases h2:s.up.length=s.topo.nodes.length
  ·cases h3:Qh s.lic with
   | false=>
    rw[h3]at c2
    rw[Qe4 (.inr (.inr h3))]
    repeat'(first|(refine zhm fun hb=>?_;try exact zab)|refine zUrp ?_|refine zg2 ?_ ?_|intro _|fail)
    exact zDR
   | true=>
    rw[h3]at c2
    have ht:=JT.1 h1
    have h4:=ht.len
    have h5:=ht.nlen
    have hok:=Vi ht h2 h3
    have hen:(Jf s.topo s.up s.lic).profs=ZO s.topo.nodes:=rfl
    rw[Qg2 ht h2 h3]
    repeat'(first|(refine zhm fun hb=>?_;try exact zab)|refine zUtp ?_|refine zg2 ?_ ?_|intro _|fail)
    refine Qa (fun(k:Nat×List (List Pt))=>⟨65,[(1,.ptr 1 0),(2,.ptr 2 0),(4,.ptr 4 0),(37,zL (Qz s.topo.nodes)),(38,zI (s.topo.nodes.length:Nat)),(39,zI k.1)],[(1000000,.row 170 (runE s.runs) false),(1000001,.row 172 (endE s.ends) true),(1,.box 49 (Wu s 1000000 1000001)),(2,.box 209 [.nil,.nil,.nil,.nil,.nil]),(4,.box 209 [zL (intE s.topo.parents),zL (Qz s.topo.nodes),zL (Qq s.up),slN 53 (QZ k.2),.nil])]++slO 53 207 (QZ k.2)⟩) (fun k=>k.1<=s.topo.nodes.length/\k.2=ZO (s.topo.nodes.take k.1)) (fun k=>s.topo.nodes.length-k.1) (0,[]) (by exact⟨Xab _,rfl⟩) ?_ ?_
    ·exact zll
    ·rintro ⟨n,out⟩ ⟨hn,ho⟩
     dsimp only at hn ho ⊢
     have hol:out.length=n:=by rw[ho,ZO,Xah,Xai];omega
     have hol2:=Qy out
     by_cases hn':n<s.topo.nodes.length
     ·have hnx:=Xc hn'
      rw[<-ho]at hnx
      have hc:=ht.nodes n hn'
      cases out with
      | nil=>
       repeat'(first|(refine zhm fun hb=>?_;try exact zab)|(refine Qi 8 46 rfl ?_)|refine zUtp ?_|refine zg2 ?_ ?_|refine kc (J9 (v:=(nth s.topo.nodes n).cap) hc.2.2) rfl rfl ?_|intro _|fail)
       refine⟨(n+1,[]++[[⟨0,(nth s.topo.nodes n).cap⟩]]),⟨by omega,hnx.symm⟩,by omega,?_⟩
       exact zll
      | cons p0 o0=>
       repeat'(first|(refine zhm fun hb=>?_;try exact zab)|(refine Qi 8 46 rfl ?_)|refine zUtp ?_|refine zg2 ?_ ?_|refine kc (J9 (v:=(nth s.topo.nodes n).cap) hc.2.2) rfl rfl ?_|intro _|fail)
       refine⟨(n+1,(p0::o0)++[[⟨0,(nth s.topo.nodes n).cap⟩]]),⟨by omega,hnx.symm⟩,by omega,?_⟩
       refine zag ?_;exact zp (YV (p0::o0) _)
     ·have hall:ZO s.topo.nodes=out:=by rw[ho,Xaz (by omega)]
      cases out with
      | nil=>
       have hcp:=Qho (tp:=s.topo) (up:=s.up) (li:=[⟨0,s.lic⟩]) (by unfold Jf at hok;rw[show(s.topo.nodes.map fun n=>[(⟨0,n.cap⟩:Pt)])=[] from hall]at hok;exact hok)
       unfold Jf
       rw[show(s.topo.nodes.map fun n=>[(⟨0,n.cap⟩:Pt)])=[] from hall]
       repeat'(first|(refine zhm fun hb=>?_;try exact zab)|(refine Qi 11 59 rfl ?_)|refine zUrp ?_|refine zg2 ?_ ?_|refine kc (J9 (v:=s.lic) h3) rfl rfl ?_|refine kmu hcp ?_|intro _|fail)
       exact zDR
      | cons p0 o0=>
       have hcp:=Qdr hok (by rw[hen,hall];exact Xcm _)
       unfold Jf at hcp
       rw[show(s.topo.nodes.map fun n=>[(⟨0,n.cap⟩:Pt)])=p0::o0 from hall]at hcp
       unfold Jf
       rw[show(s.topo.nodes.map fun n=>[(⟨0,n.cap⟩:Pt)])=p0::o0 from hall]
       repeat'(first|(refine zhm fun hb=>?_;try exact zab)|(refine Qi 11 59 rfl ?_)|(refine Qi 11 53 rfl ?_)|refine zUrp ?_|refine zg2 ?_ ?_|refine kc (J9 (v:=s.lic) h3) rfl rfl ?_|refine kmu hcp ?_|intro _|fail)
       show AWp _ _ _ _
       refine Qs 64 rfl ?_
       exact zDR
  ·rw[Qe4 (.inr (.inl h2))]
   repeat'(first|(refine zhm fun hb=>?_;try exact zab)|refine zUrp ?_|refine zg2 ?_ ?_|intro _|fail)
   any_goals
    show AWp _ _ _ _
    refine QD ?_
    apply Qt
    refine zm () [] trivial ?_ ?_ ?_
    repeat'(first|exact ze3|refine ze2 ?_ ?_|refine ze4 ?_|exact ze5|fail)
    all_goals exact zp rfl
theorem Qf5{s:Qd}(hs:Ql 1000000000 s):MCalls Tryz.prog 171 [.agg (Wu s 1000000 1000001)] [(1000000,.row 170 (runE s.runs) false),(1000001,.row 172 (endE s.ends) true)] (fun _:Unit=>True) (fun _=>(XW (JG s))) (fun _=>[(1000000,.row 170 (runE s.runs) false),(1000001,.row 172 (endE s.ends) true)]) (fun _=>[]):=by
 refine Ji tt func171 rfl rfl rfl ⟨.inr (.inr rfl),.inl rfl,trivial⟩ (fun _ _=>⟨⟨⟨rfl,rfl,rfl⟩,⟨rfl,rfl,rfl⟩,trivial⟩,.inr (.inr rfl),.inl rfl,trivial⟩) (fun w0 Z O=>?_)
 have c1:=QlS hs
 have c3:=Y1 (x:=s.now)
 by_cases hB:QgC s
 ·have h1:=hB.up
  have h2:=hB.now
  have h3:=hB.topo.nlen
  have h4:=hB.topo.len
  rw[Qg2 hB.topo hB.up hB.lic]at c1
  rw[show inB s.now 0 1000000000=true by rw[Yr];exact h2]at c3
  rw[QfQ hB]
  repeat'(first|(refine zhm fun hb=>?_;try exact zab)|refine zUtp ?_|refine zg2 ?_ ?_|(refine km [1000000,1000001] (c1) rfl rfl (fun i hi=>?_);try dsimp only at hi)|intro _|fail)
  refine Qa (fun(k:Nat×Jy)=>⟨93,[(1,.ptr 1 0),(2,.ptr 2 0),(4,.ptr 4 0),(27,.row 1000000),(28,zI (s.runs.length:Nat)),(29,zI k.1)],[(1000000,.row 170 (runE s.runs) false),(1000001,.row 172 (endE s.ends) true),(1,.box 49 (Wu s 1000000 1000001)),(2,.box 209 [.nil,.nil,.nil,.nil,.nil]),(4,.box 209 (Qa9 k.2))]⟩) (fun k=>GoP s k.1 k.2) (fun k=>s.runs.length-k.1) (0,Jf s.topo s.up s.lic) (by exact⟨Xab _,Vi hB.topo h1 hB.lic,rfl⟩) ?_ ?_
  ·exact zll
  ·rintro ⟨n,r⟩ hg
   dsimp only at hg ⊢
   have hle:=hg.le
   have hrl:=Qf s.runs
   by_cases hn:n<s.runs.length
   ·have c5:=QdY (j:=(nth s.runs n).job) (l:=(nth s.runs n).nodes) hg.ok (hs.rno n hn)
    cases hd:(Qu (nth s.runs n).job&&Zn r.topo (nth s.runs n).job (nth s.runs n).nodes) with
    | false=>
     rw[hd]at c5
     have hnone:W4 s.now s.runs (Jf s.topo s.up s.lic)=none:=by
      cases hb0:runB s.now (nth s.runs n) with
      | false=>exact QoG hg hn hb0
      | true=>
       refine QoC hg hn ?_
       cases hj:Qu (nth s.runs n).job with
       | false=>exact QcN hj
       | true=>rw[hj,Xbx]at hd;exact Qdw hd
     rw[hnone]
     repeat'(first|(refine zhm fun hb=>?_;try exact zab)|refine zUr ?_|refine zg2 ?_ ?_|(apply YE;first|refine zom ?_|(apply QOk.ok;refine ZC rfl rfl rfl rfl rfl rfl ?_))|refine zln fun _=>?_|refine zop ?_|refine zqj c5 ?_|fail)
     exact zDR
    | true=>
     rw[hd]at c5
     rw[Xaf]at hd
     obtain⟨k4,k5⟩:=YA hd.1
     cases hb0:runB s.now (nth s.runs n) with
     | false=>
      rw[QoG hg hn hb0]
      by_cases hat:0<=(nth s.runs n).at'/\(nth s.runs n).at'<=1000000000
      ·have c6:=Y1 (x:=(nth s.runs n).at')
       repeat'(first|(refine zhm fun hb=>?_;try exact zab)|refine zUrn ?_|refine zg2 ?_ ?_|intro _|fail)
       all_goals first
        | (exfalso;have:=(Vn (now:=s.now) (x:=nth s.runs n)).2 ⟨hd.1,by omega,by omega,by omega⟩;rw[hb0]at this;cases this;done)
        | skip
       any_goals
        show AWp _ _ _ _
        refine QD ?_
        apply Qt
        refine zm () [] trivial ?_ ?_ ?_
        repeat'(first|exact ze3|refine ze2 ?_ ?_|refine ze4 ?_|exact ze5|fail)
        all_goals exact zp rfl
      ·have c6:=Y1 (x:=(nth s.runs n).at')
       rw[show inB (nth s.runs n).at' 0 1000000000=false by rw[Qlk];omega]at c6
       repeat'(first|(refine zhm fun hb=>?_;try exact zab)|refine zUr ?_|refine zg2 ?_ ?_|(apply YE;first|refine zom ?_|(apply QOk.ok;refine ZC rfl rfl rfl rfl rfl rfl ?_))|refine zln fun _=>?_|refine zon ?_|refine zqj c5 ?_|refine zqj c6 ?_|fail)
       exact zDR
     | true=>
      obtain⟨k1,k2,k3⟩:=Vn.1 hb0
      have c6:=Y1 (x:=(nth s.runs n).at')
      have c7:=Qc9 (j:={ (nth s.runs n).job with wall:=(nth s.runs n).at'+(nth s.runs n).job.wall-s.now }) (a:=s.now) hg.ok (hs.rno n hn) h2
      have hjo:Qu { (nth s.runs n).job with wall:=(nth s.runs n).at'+(nth s.runs n).job.wall-s.now }=true:=by
       have:=k1
       simp only[Qu,Xaf,Yr]at this ⊢
       exact⟨⟨this.1.1,by omega⟩,this.2⟩
      rw[QgT (j:=(nth s.runs n).job) k1 hjo rfl rfl rfl]at c7
      dsimp only at c7
      rw[show s.now+((nth s.runs n).at'+(nth s.runs n).job.wall-s.now)=(nth s.runs n).at'+(nth s.runs n).job.wall by omega]at c7
      cases hq:resO r (nth s.runs n).job s.now ((nth s.runs n).at'+(nth s.runs n).job.wall) (nth s.runs n).nodes with
      | none=>
       rw[hq]at c7
       rw[QoC hg hn hq]
       repeat'(first|(refine zhm fun hb=>?_;try exact zab)|refine zUrn ?_|refine zg2 ?_ ?_|refine kmu c7 ?_|intro _|fail)
       exact zDR
      | some r'=>
       rw[hq]at c7
       have hst:=QtM hg hn hb0 hq
       repeat'(first|(refine zhm fun hb=>?_;try exact zab)|refine zUrn ?_|refine zg2 ?_ ?_|refine kmu c7 ?_|intro _|fail)
       exact⟨(n+1,r'),hst,by dsimp only;omega,zll⟩
   ·rw[Qtx hg hn]
    repeat'(first|(refine zhm fun hb=>?_;try exact zab)|refine zUrp ?_|refine zg2 ?_ ?_|intro _|fail)
    exact zDR
 ·rw[Qgh hB]
  cases he:empO s with
  | none=>
   rw[he]at c1
   repeat'(first|(refine zhm fun hb=>?_;try exact zab)|refine zUrp ?_|refine zg2 ?_ ?_|(refine km [1000000,1000001] (c1) rfl rfl (fun i hi=>?_);try dsimp only at hi)|intro _|fail)
   exact zDR
  | some r0=>
   rw[he]at c1
   rw[show inB s.now 0 1000000000=false by
    rw[Qlk]
    rcases Classical.em (0<=s.now/\s.now<=1000000000)with h|h
    ·exact absurd (QgI.2 ⟨by rw[he];rfl,h⟩) hB
    ·omega]at c3
   repeat'(first|(refine zhm fun hb=>?_;try exact zab)|refine zUrp ?_|refine zg2 ?_ ?_|(refine km [1000000,1000001] (c1) rfl rfl (fun i hi=>?_);try dsimp only at hi)|intro _|fail)
   exact zDR
end
end Go.Proofs.YtihgfennoalocaaGreat
