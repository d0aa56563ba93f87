/-
  No controller; Found as data; WorldOk, both; its law, without its argument.
-/
import Derived.Test.YtkdniahincpmaaaGreatKB37
set_option maxRecDepth 100000
set_option maxHeartbeats 16000000
namespace Go.Proofs.YtkdniahincpmaaaGreat
open Go Go.RowKit Tryz
section
attribute [local irreducible] AWp QI OpOk ACalls ChA QsOk MCalls NCalls EnC PY

def noJn(j:Q7):Bool:=decide (j.bytes.length=0)&&(decide (j.synced=0)&&decide (j.count=0))
noncomputable def Z7 (c:Ctl):Bool:=pB (c.first=zS)&&(pB (c.state=zS)&&noJn c.jn)
theorem QjI{n:Nat}{s c:Int}(h1:n=0)(h2:s=0):(c==0)=(decide (n=0)&&(decide (s=0)&&decide (c=0))):=by
 subst h1;subst h2
 by_cases h:c=0 <;> simp[h]
theorem Qrx{n:Nat}{s c:Int}(h:n≠0\/s≠0):false=(decide (n=0)&&(decide (s=0)&&decide (c=0))):=by
 rcases h with h|h <;> simp[h]
theorem Qqw{c:Ctl}(hs:Yb 1048576 c):zAc 54 [ctlA c] [.d (.b (Z7 c))] []:=by
 refine zAC func54 fun w0 Z=>?_
 have a:=ZO (s:=c.first) (u:=zS) (hs.first.mono (by omega))
 have e:=ZO (s:=c.state) (u:=zS) (hs.state.mono (by omega))
 have hb:=Qy c.jn.bytes
 have h:=hs.jn
 unfold Z7 noJn
 cases f:pB (c.first=zS) with
 | false=>
  rw[f]at a
  repeat'(first|(refine zhm fun hb=>?_;try exact zab)|refine Qd ?_|(apply zch;exact zcg)|exact zhk|refine zg3 ?_ ?_|intro _)
  refine zr [] ?_ ?_
  repeat'(first|exact ze3|refine ze2 ?_ ?_|refine ze4 ?_|exact ze5|fail)
  all_goals exact zp rfl
 | true=>
  rw[f]at a
  cases g:pB (c.state=zS) with
  | false=>
   rw[g]at e
   repeat'(first|(refine zhm fun hb=>?_;try exact zab)|refine Qd ?_|(apply zch;exact zcg)|exact zhk|refine zg3 ?_ ?_|intro _)
   refine zr [] ?_ ?_
   repeat'(first|exact ze3|refine ze2 ?_ ?_|refine ze4 ?_|exact ze5|fail)
   all_goals exact zp rfl
  | true=>
   rw[g]at e
   repeat'(first|(refine zhm fun hb=>?_;try exact zab)|refine Qd ?_|(apply zch;exact zcg)|exact zhk|refine zg3 ?_ ?_|intro _)
   all_goals
    refine zr [] ?_ ?_
    repeat'(first|exact ze3|refine ze2 ?_ ?_|refine ze4 ?_|exact ze5|fail)
    all_goals first|exact zp rfl|exact zp (QjI (by omega) (by omega))|exact zp (Qrx (by omega))
theorem QkS{s:Qb}(h1:s.topo.parents.length=0)(h2:s.topo.nodes.length=0)(h3:s.up.length=0)(h4:s.lic=⟨0,0,0⟩)(h5:s.depth=0)(h6:s.now=0)(h7:s.queue.length=0)(h8:s.runs.length=0)(h9:s.ends.length=0):s=zS:=by
 obtain⟨⟨p,n⟩,u,l,d,w,q,r,e⟩:=s
 simp only[Xbh]at *
 subst h1;subst h2;subst h3;subst h4;subst h5;subst h6;subst h7;subst h8;subst h9
 rfl
theorem Qjq{s:Qb}(h:Qj 1048576 s):zAc 279 [Qt s] [.d (.b (pB (s=zS)))] []:=by
 refine zAC func279 fun w0 Z=>?_
 have h1:=Qc s.topo.parents
 have h2:=Qz s.topo.nodes
 have h3:=Qx s.up
 have h4:=Ql s.queue
 have h5:=Qg s.runs
 have h6:=QO s.ends
 have k1:=h.par
 have k2:=h.nod
 have k3:=h.up
 have k4:=h.que
 have k5:=h.run
 have k6:=h.end'
 by_cases e:s=zS
 ·subst e
  rw[pB_t.2 rfl]
  repeat'(first|(refine zhm fun hb=>?_;try exact zab)|refine Qd ?_|(apply zch;exact zcg)|exact zhk|refine zg3 ?_ ?_|intro _)
  all_goals first|exact absurd rfl (Qfr.1 (by assumption))|exact absurd rfl (by assumption)|skip
  all_goals
   refine zr [] ?_ ?_
   repeat'(first|exact ze3|refine ze2 ?_ ?_|refine ze4 ?_|exact ze5|fail)
   all_goals exact zp rfl
 ·rw[pB_f.2 e]
  repeat'(first|(refine zhm fun hb=>?_;try exact zab)|refine Qd ?_|(apply zch;exact zcg)|exact zhk|refine zg3 ?_ ?_|intro _)
  all_goals
   refine zr [] ?_ ?_
   repeat'(first|exact ze3|refine ze2 ?_ ?_|refine ze4 ?_|exact ze5|fail)
   all_goals first|exact zp rfl|exact zp (decide_eq_false fun hE=>e (QkS (by omega) (by omega) (by omega) (QfA.1 (by assumption)) (by omega) (by omega) (by omega) (by omega) (by omega))).symm|exact zp (beq_eq_false_iff_ne.2 fun hE=>e (QkS (by omega) (by omega) (by omega) (QfA.1 (by assumption)) (by omega) (by omega) (by omega) (by omega) (by omega)))|exact zp (beq_eq_false_iff_ne.2 fun hE=>e (QkS (by omega) (by omega) (by omega) (QfA.1 (by assumption)) (by omega) (by omega) (by omega) (by omega) (by omega))).symm
theorem Qv5{c:Ctl}(hs:Yb 1048576 c):zAc 218 [ctlA c] [.d (.b (Z7 c))] []:=by
 refine zAC func218 fun w0 Z=>?_
 have a:=Qjq hs.first
 have e:=Qjq hs.state
 have hb:=Qy c.jn.bytes
 have h:=hs.jn
 unfold Z7 noJn
 cases f:pB (c.first=zS) with
 | false=>
  rw[f]at a
  repeat'(first|(refine zhm fun hb=>?_;try exact zab)|refine Qd ?_|(apply zch;exact zcg)|exact zhk|refine zg3 ?_ ?_|intro _)
  refine zr [] ?_ ?_
  repeat'(first|exact ze3|refine ze2 ?_ ?_|refine ze4 ?_|exact ze5|fail)
  all_goals exact zp rfl
 | true=>
  rw[f]at a
  cases g:pB (c.state=zS) with
  | false=>
   rw[g]at e
   repeat'(first|(refine zhm fun hb=>?_;try exact zab)|refine Qd ?_|(apply zch;exact zcg)|exact zhk|refine zg3 ?_ ?_|intro _)
   refine zr [] ?_ ?_
   repeat'(first|exact ze3|refine ze2 ?_ ?_|refine ze4 ?_|exact ze5|fail)
   all_goals exact zp rfl
  | true=>
   rw[g]at e
   repeat'(first|(refine zhm fun hb=>?_;try exact zab)|refine Qd ?_|(apply zch;exact zcg)|exact zhk|refine zg3 ?_ ?_|intro _)
   all_goals
    refine zr [] ?_ ?_
    repeat'(first|exact ze3|refine ze2 ?_ ?_|refine ze4 ?_|exact ze5|fail)
    all_goals first|exact zp rfl|exact zp (QjI (by omega) (by omega))|exact zp (Qrx (by omega))

inductive RpK
 | fst
 | nxt (s:Qb) (i:Nat)
@[reducible] def rpS (s0:Qb) (l:List (List UInt8)):RpK->AS
 | .fst=>⟨38,[(2,.ptr 2 0),(4,.ptr 4 0),(12,zL (strE l)),(13,zI (l.length:Nat)),(14,zI 0)],[(2,.box 34 (Q3 s0)),(4,.box 34 ctl0)]⟩
 | .nxt s i=>⟨38,[(2,.ptr 2 0),(4,.ptr 4 0),(12,zL (strE l)),(13,zI (l.length:Nat)),(14,zI i)],[(2,.box 34 (stC s 29 1029 2029 3029 4029 5029)),(4,.box 34 ctl0),(29,.row 3 (intE s.topo.parents) true),(1029,.row 62 (Qw s.topo.nodes) true),(2029,.row 4 (Qp s.up) true),(3029,.row 40 (jobE s.queue) true),(4029,.row 66 (runE s.runs) true),(5029,.row 123 (endE s.ends) true)]⟩
def rpP(l:List (List UInt8))(R:Option Qb):RpK->Prop
 | .fst=>True
 | .nxt s i=>i<=l.length/\Qj 1048576 s/\repO s (l.drop i)=R
def rpM(l:List (List UInt8)):RpK->Nat
 | .fst=>l.length+1
 | .nxt _ i=>l.length-i
theorem QnB{s:Qb}{l:List (List UInt8)}(hs:Qj 1048576 s)(h0:0<l.length)(hl:l.length<=1000000000)(hr:∀r∈l,r.length<=1000000000):zAc 45 [Qt s,zL (strE l)] (unR (repO s l)) (stB (repO s l)):=by
 refine zAC func45 fun w0 Z=>?_
 have q:=YH l
 have h:repO s (l.drop 0)=repO s l:=by rw[XbO]
 generalize repO s l=R at h ⊢
 repeat'(first|(refine zhm fun hb=>?_;try exact zab)|refine Qd ?_|(apply zch;exact zcg)|exact zhk|refine zg3 ?_ ?_|intro _)
 refine Qa (rpS s l) (rpP l R) (rpM l) .fst trivial ?_ ?_
 ·refine⟨rfl,?_,?_,rfl⟩
  repeat'(first|exact ze3|refine ze2 ?_ ?_|refine ze4 ?_|exact ze5|fail)
  all_goals exact zp (by first|rfl|exact YH _)
 rintro (_|⟨t,n⟩) p
 ·have i:=Qfq (s:=nth l 0) (hr _ (QC h0))
  generalize ht:JR (nth l 0)=tc at i
  obtain⟨c,m⟩:=tc
  dsimp only at i
  dsimp only[rpS]
  cases m with
  | false=>
   rw[Qfg h0 (by rw[ht])]at h
   subst h
   repeat'(first|(refine zhm fun hb=>?_;try exact zab)|refine Qd ?_|(apply zch;exact zcg)|exact zhk|refine zg3 ?_ ?_|intro _)
   all_goals
    refine zr [] ?_ ?_
    repeat'(first|exact ze3|refine ze2 ?_ ?_|refine ze4 ?_|exact ze5|fail)
    all_goals exact zp rfl
  | true=>
   have e:=We (c:=c) hs
   have f:=QeO (c:=c) hs
   rcases YJ (s:=s) (c:=c)with ⟨s2,h2⟩|⟨k,h2,hk2⟩
   ·rw[h2]at f e
    dsimp only[SO,stR,stB]at f
    rw[QbP h0 ht (by rw[h2])]at h
    repeat'(first|(refine zhm fun hb=>?_;try exact zab)|refine Qd ?_|(apply zch;exact zcg)|exact zhk|refine zg3 ?_ ?_|intro _)
    all_goals
     refine⟨.nxt s2 1,⟨by omega,e s2 rfl,h⟩,by dsimp only[rpM];omega,?_⟩
     refine⟨rfl,?_,?_,rfl⟩
     repeat'(first|exact ze3|refine ze2 ?_ ?_|refine ze4 ?_|exact ze5|fail)
     all_goals exact zp rfl
   ·rw[h2]at f
    dsimp only[SO,stR,stB]at f
    rw[QbG h0 ht (by rw[h2])]at h
    subst h
    repeat'(first|(refine zhm fun hb=>?_;try exact zab)|refine Qd ?_|(apply zch;exact zcg)|exact zhk|refine zg3 ?_ ?_|intro _)
    all_goals
     refine zr [] ?_ ?_
     repeat'(first|exact ze3|refine ze2 ?_ ?_|refine ze4 ?_|exact ze5|fail)
     all_goals exact zp rfl
 ·obtain⟨o,j,d⟩:=p
  dsimp only[rpS]
  refine Yd 29 39 rfl ?_
  refine Yd 1029 1039 rfl ?_
  refine Yd 2029 2039 rfl ?_
  refine Yd 3029 3039 rfl ?_
  refine Yd 4029 4039 rfl ?_
  refine Yd 5029 5039 rfl ?_
  by_cases g:n<l.length
  ·have i:=Qfq (s:=nth l n) (hr _ (QC g))
   generalize ht:JR (nth l n)=tc at i
   obtain⟨c,m⟩:=tc
   dsimp only at i
   cases m with
   | false=>
    rw[Qfg g (by rw[ht])]at d
    subst d
    repeat'(first|(refine zhm fun hb=>?_;try exact zab)|refine Qd ?_|(apply zch;exact zcg)|exact zhk|refine zg3 ?_ ?_|intro _)
    all_goals
     refine zr [] ?_ ?_
     repeat'(first|exact ze3|refine ze2 ?_ ?_|refine ze4 ?_|exact ze5|fail)
     all_goals exact zp rfl
   | true=>
    have e:=We (c:=c) j
    have f:=QeO (c:=c) j
    rcases YJ (s:=t) (c:=c)with ⟨s2,h2⟩|⟨k,h2,hk2⟩
    ·rw[h2]at f e
     dsimp only[SO,stR,stB]at f
     rw[QbP g ht (by rw[h2])]at d
     repeat'(first|(refine zhm fun hb=>?_;try exact zab)|refine Qd ?_|(apply zch;exact zcg)|exact zhk|refine zg3 ?_ ?_|intro _)
     all_goals
      refine⟨.nxt s2 (n+1),⟨by omega,e s2 rfl,d⟩,by dsimp only[rpM];omega,?_⟩
      refine⟨rfl,?_,?_,rfl⟩
      repeat'(first|exact ze3|refine ze2 ?_ ?_|refine ze4 ?_|exact ze5|fail)
      all_goals exact zp rfl
    ·rw[h2]at f
     dsimp only[SO,stR,stB]at f
     rw[QbG g ht (by rw[h2])]at d
     subst d
     repeat'(first|(refine zhm fun hb=>?_;try exact zab)|refine Qd ?_|(apply zch;exact zcg)|exact zhk|refine zg3 ?_ ?_|intro _)
     all_goals
      refine zr [] ?_ ?_
      repeat'(first|exact ze3|refine ze2 ?_ ?_|refine ze4 ?_|exact ze5|fail)
      all_goals exact zp rfl
  ·obtain rfl:n=l.length:=by omega
   rw[XcN]at d
   subst d
   repeat'(first|(refine zhm fun hb=>?_;try exact zab)|refine Qd ?_|(apply zch;exact zcg)|exact zhk|refine zg3 ?_ ?_|intro _)
   refine zr [39,1039,2039,3039,4039,5039] ?_ ?_
   repeat'(first|exact ze3|refine ze2 ?_ ?_|refine ze4 ?_|exact ze5|fail)
   all_goals exact zp rfl
@[reducible] def stMM (s:Qb):List (Nat×AO):=[(1000000,.row 3 (intE s.topo.parents) true),(1000001,.row 62 (Qw s.topo.nodes) true),(1000002,.row 4 (Qp s.up) true),(1000003,.row 40 (jobE s.queue) true),(1000004,.row 66 (runE s.runs) true),(1000005,.row 123 (endE s.ends) true)]
@[reducible] def Qyq (s:Qb) (q0 q1 q2 q3 q4 q5:Nat):List AV:=[.sub q0 0 (intE s.topo.parents).length,.sub q1 0 (Qw s.topo.nodes).length,.sub q2 0 (Qp s.up).length,zI s.lic.a,zI s.lic.b,zI s.lic.c,zI s.depth,zI s.now,.sub q3 0 (jobE s.queue).length,.sub q4 0 (runE s.runs).length,.sub q5 0 (endE s.ends).length]
@[reducible] def QxB (s:Qb):AV:=.agg [zL (((intE s.topo.parents).take (intE s.topo.parents).length).drop 0),zL (((Qw s.topo.nodes).take (Qw s.topo.nodes).length).drop 0),zL (((Qp s.up).take (Qp s.up).length).drop 0),zI s.lic.a,zI s.lic.b,zI s.lic.c,zI s.depth,zI s.now,zL (((jobE s.queue).take (jobE s.queue).length).drop 0),zL (((runE s.runs).take (runE s.runs).length).drop 0),zL (((endE s.ends).take (endE s.ends).length).drop 0)]
theorem QjV{s:Qb}(hs:Qj 100000000 s):zAc 46 [QxB s] [QaX s 0 1 2 3 4 5] (QcT s):=by
 have e:∀es:List (List D),(es.take es.length).drop 0=es:=fun es=>by rw[Xak,XbO]
 unfold QxB
 simp only[e]
 exact Q2 hs
theorem Qn4{s:Qb}:MCalls Tryz.prog 45 [QaX s 1000000 1000001 1000002 1000003 1000004 1000005,zL (strE [])] (stMM s) (fun _:Unit=>True) (fun _=>[.agg (Qyq s 1000000 1000001 1000002 1000003 1000004 1000005),.d (.b true)]) (fun _=>stMM s) (fun _=>[]):=by
 refine Js tt func45 rfl rfl rfl ⟨.inl rfl,.inl rfl,.inl rfl,.inl rfl,.inl rfl,.inl rfl,trivial⟩ (fun _ _=>⟨⟨⟨rfl,rfl,rfl⟩,⟨rfl,rfl,rfl⟩,⟨rfl,rfl,rfl⟩,⟨rfl,rfl,rfl⟩,⟨rfl,rfl,rfl⟩,⟨rfl,rfl,rfl⟩,trivial⟩,.inl rfl,.inl rfl,.inl rfl,.inl rfl,.inl rfl,.inl rfl,trivial⟩) (fun w0 Z O=>?_)
 refine Qb4 0 1000000 rfl ?_
 refine Qb4 0 1000001 rfl ?_
 refine Qb4 0 1000002 rfl ?_
 refine Qb4 0 1000003 rfl ?_
 refine Qb4 0 1000004 rfl ?_
 refine Qb4 0 1000005 rfl ?_
 repeat'(first|(refine zhm fun hb=>?_;try exact zab)|refine Qd ?_|(apply zch;exact zcg)|exact zhk|refine zg3 ?_ ?_|intro _)
 refine Qa (fun(_:Unit)=>⟨38,[(2,.ptr 2 0),(4,.ptr 4 0),(12,zL []),(13,zI 0),(14,zI 0)],[(2,.box 34 (Qyq s 1000000 1000001 1000002 1000003 1000004 1000005)),(4,.box 34 ctl0),(1000000,.row 3 (intE s.topo.parents) true),(1000001,.row 62 (Qw s.topo.nodes) true),(1000002,.row 4 (Qp s.up) true),(1000003,.row 40 (jobE s.queue) true),(1000004,.row 66 (runE s.runs) true),(1000005,.row 123 (endE s.ends) true)]⟩) (fun _=>True) (fun _=>0) () trivial ?_ ?_
 ·refine⟨rfl,?_,?_,rfl⟩
  repeat'(first|exact ze3|refine ze2 ?_ ?_|refine ze4 ?_|exact ze5|fail)
  all_goals exact zp rfl
 ·intro _ _
  repeat'(first|(refine zhm fun hb=>?_;try exact zab)|refine Qd ?_|(apply zch;exact zcg)|exact zhk|refine zg3 ?_ ?_|intro _)
  refine zp ?_
  refine Wf () [] (by exact trivial) rfl ?_ ?_ ?_
  all_goals exact zae
def zC:Ctl:=⟨zS,zS,⟨[],0,0⟩⟩
noncomputable def Yr (s:Qb) (b:List UInt8):Option Ctl×Int:=
 if Jt s=true/\b.length<=40000 then match V2 s b with
  | none=>(none,2)
  | some s'=>(some ⟨s,s',WF b⟩,0)
 else(none,1)
@[reducible] def ctl00:List AV:=ctl0++(ctl0++[.nil,zI 0,zI 0])
@[reducible] def Qs3 (c:Ctl):AV:=.agg (stC c.first 0 1 2 3 4 5++(stC c.state 6 7 8 9 10 11++[.row 12,zI c.jn.synced,zI c.jn.count]))
@[reducible] def QvX (c:Ctl):List (Nat×AO):=[(0,.row 3 (intE c.first.topo.parents) true),(1,.row 62 (Qw c.first.topo.nodes) true),(2,.row 4 (Qp c.first.up) true),(3,.row 40 (jobE c.first.queue) true),(4,.row 66 (runE c.first.runs) true),(5,.row 123 (endE c.first.ends) true),(6,.row 3 (intE c.state.topo.parents) true),(7,.row 62 (Qw c.state.topo.nodes) true),(8,.row 4 (Qp c.state.up) true),(9,.row 40 (jobE c.state.queue) true),(10,.row 66 (runE c.state.runs) true),(11,.row 123 (endE c.state.ends) true),(12,.row 5 (QK c.jn.bytes) true)]
@[reducible] def coR (o:Option Ctl) (k:Int):List AV:=match o with
 | none=>[.agg ctl00,zI k]
 | some c=>[Qs3 c,zI k]
@[reducible] def coB (o:Option Ctl):List (Nat×AO):=match o with
 | none=>[]
 | some c=>QvX c
theorem Qj4{s:Qb}{b:List UInt8}(hs:Qj 1048576 s)(hb:b.length<=1048576):zAc 10 [Qt s,zL (QK b)] (coR (Yr s b).1 (Yr s b).2) (coB (Yr s b).1):=by
 refine zAC func10 fun w0 Z=>?_
 have f:Qj 100000000 s:=hs.mono (by omega)
 have t:=Qy b
 unfold Yr
 cases j:Jt s with
 | false=>
  have g:=Qhi f (pB_f.1 j)
  rw[if_neg (fun h=>by cases h.1)]
  repeat'(first|(refine zhm fun hb=>?_;try exact zab)|refine Qd ?_|(apply zch;exact zcg)|exact zhk|refine zg3 ?_ ?_|intro _)
  refine zr [] ?_ ?_
  repeat'(first|exact ze3|refine ze2 ?_ ?_|refine ze4 ?_|exact ze5|fail)
  all_goals exact zp rfl
 | true=>
  by_cases k:b.length<=40000
  ·have g:=Qdt f (pB_t.1 j)
   have c2:=Qhh k
   obtain⟨m,o⟩:=QgQ b
   have e:=dc_a (Vw (b:=b) (by omega))
   have d:∀r∈(Q5 b).1,r.length<=1000000000:=fun r hr'=>Xal (o r hr') (by omega)
   have a:=VB (l:=(Q5 b).1) (s:=s) (s':=(repO s (Q5 b).1).getD zS) hs
   rw[if_pos ⟨rfl,k⟩]
   unfold V2
   generalize (Q5 b).1=l at m o e d a ⊢
   by_cases q:0<l.length
   ·have c:=QnB hs q (by omega) d
    cases n:repO s l with
    | none=>
     rw[n]at c
     dsimp only[unR,stB]at c
     repeat'(first|(refine zhm fun hb=>?_;try exact zab)|refine Qd ?_|(apply zch;exact zcg)|exact zhk|refine zg3 ?_ ?_|refine kmu e ?_|intro _)
     refine zr [] ?_ ?_
     repeat'(first|exact ze3|refine ze2 ?_ ?_|refine ze4 ?_|exact ze5|fail)
     all_goals exact zp rfl
    | some s'=>
     rw[n]at c a
     dsimp only[unR,stB,Option.getD]at c a
     have p:=Q2 (s:=s') ((a rfl).mono (by omega))
     repeat'(first|(refine zhm fun hb=>?_;try exact zab)|refine Qd ?_|(apply zch;exact zcg)|exact zhk|refine zg3 ?_ ?_|refine kmu e ?_|intro _)
     refine zr [14,1014,2014,3014,4014,5014,44,1044,2044,3044,4044,5044,26] ?_ ?_
     repeat'(first|exact ze3|refine ze2 ?_ ?_|refine ze4 ?_|exact ze5|fail)
     all_goals exact zp rfl
   ·obtain rfl:l=[]:=Xbh.1 (by omega)
    have c:=Qn4 (s:=s)
    have p:=QjV (s:=s) f
    rw[show repO s []=some s from rfl]
    repeat'(first|(refine zhm fun hb=>?_;try exact zab)|refine Qd ?_|(apply zch;exact zcg)|exact zhk|refine zg3 ?_ ?_|refine kmu e ?_|(refine km [14,1014,2014,3014,4014,5014] (c) rfl rfl (fun i hi=>?_);try dsimp only at hi)|intro _)
    refine zr [14,1014,2014,3014,4014,5014,44,1044,2044,3044,4044,5044,26] ?_ ?_
    repeat'(first|exact ze3|refine ze2 ?_ ?_|refine ze4 ?_|exact ze5|fail)
    all_goals exact zp rfl
  ·have g:=dc_a (Qdt f (pB_t.1 j))
   rw[if_neg (fun h=>k h.2)]
   repeat'(first|(refine zhm fun hb=>?_;try exact zab)|refine Qd ?_|(apply zch;exact zcg)|exact zhk|refine zg3 ?_ ?_|refine kmu g ?_|intro _)
   refine zr [] ?_ ?_
   repeat'(first|exact ze3|refine ze2 ?_ ?_|refine ze4 ?_|exact ze5|fail)
   all_goals exact zp rfl
theorem QdQ(s:Qb)(b:List UInt8):V2 s (WF b).bytes=V2 s b:=by
 unfold V2 WF
 rw[Qf1]
theorem Qrp{s:Qb}{b:List UInt8}(hs:Qj 1048576 s)(hb:b.length<=1048576):DC Tryz.prog 129 [Qt s,zL (QK b)] [ctlA ((Yr s b).1.getD zC),zI (Yr s b).2]:=by
 refine zMC func129 fun w0 Z O=>?_
 have m:Qj 100000000 s:=hs.mono (by omega)
 have p:=Qy b
 have g:=Wj m
 unfold Yr
 cases i:Jt s with
 | false=>
  rw[i]at g
  rw[if_neg (fun h=>by cases h.1)]
  repeat'(first|(refine zhm fun hb=>?_;try exact zab)|refine QR ?_|(apply zch;exact zcg)|exact zhk|refine zg3 ?_ ?_|intro _)
  exact zDR
 | true=>
  rw[i]at g
  by_cases e:b.length<=40000
  ·rw[if_pos ⟨rfl,e⟩]
   have f:=dc_a (QgI e)
   have r:(WF b).bytes.length<=40000:=by unfold WF;exact Xal (Xbg _ _) e
   have a:=Qi1 (b:=(WF b).bytes) hs (by omega)
   have d:=QdQ s b
   unfold V2 at d
   rw[d]at a
   unfold V2
   have c:=VB (l:=(Q5 b).1) (s:=s) (s':=(repO s (Q5 b).1).getD zS) hs
   generalize WF b=j at f a ⊢
   have q:=Qy j.bytes
   cases k:repO s (Q5 b).1 with
   | none=>
    rw[k]at a
    dsimp only[Option.getD,Option.isSome]at a
    repeat'(first|(refine zhm fun hb=>?_;try exact zab)|refine QR ?_|(apply zch;exact zcg)|exact zhk|refine zg3 ?_ ?_|refine kmu f ?_|refine kmu a ?_|intro _)
    exact zDR
   | some s'=>
    rw[k]at a c
    dsimp only[Option.getD,Option.isSome]at a c
    have n:=YX (s:=s) m
    have o:=YX (s:=s') ((c rfl).mono (by omega))
    repeat'(first|(refine zhm fun hb=>?_;try exact zab)|refine QR ?_|(apply zch;exact zcg)|exact zhk|refine zg3 ?_ ?_|refine kmu f ?_|refine kmu a ?_|refine kmu n ?_|refine kmu o ?_|intro _)
    exact zDR
  ·rw[if_neg (fun h=>e h.2)]
   repeat'(first|(refine zhm fun hb=>?_;try exact zab)|refine QR ?_|(apply zch;exact zcg)|exact zhk|refine zg3 ?_ ?_|intro _)
   exact zDR
theorem QjF(n:Nat):Yb n zC:=⟨V6 n,V6 n,Xad _⟩
theorem QcU{s:Qb}{b:List UInt8}(hs:Qj 1048576 s)(hb:b.length<=1048576):∀c,(Yr s b).1=some c->Yb 1048576 c:=fun c h=>by
 unfold Yr at h
 split at h
 ·split at h
  ·cases h
  ·rename_i s' a
   injection h with h
   subst h
   exact⟨hs,VB hs a,Xal (Xbg _ _) hb⟩
 ·cases h

structure Zh (w:Wld):Prop where
 first:Qj 1048576 w.first
 ctl:Yb 1048576 w.ctl
 bytes:w.bytes.length<=1048576
theorem Xb.v{w:Wld}(h:Xb 1048576 w):Zh w:=⟨h.first,h.ctl,h.bytes⟩
noncomputable def QG (w:Wld):Bool:=Jt w.first&&(match w.up with
 | true=>J9 w.ctl&&(Xd w.ctl.first w.first&&decide (w.bytes.length=0))
 | false=>Z7 w.ctl&&decide ((Yr w.first w.bytes).2=0))
theorem beqN(n:Nat):((n:Int)==0)=decide (n=0):=by
 by_cases h:n=0 <;> simp[h]
theorem QeT{w:Wld}(hs:Zh w):zAc 15 [wldA w] [.d (.b (QG w))] []:=by
 refine zAC func15 fun w0 Z=>?_
 obtain⟨t,first,ctl,bytes,h⟩:=w
 have j:Qj 100000000 first:=hs.first.mono (by omega)
 have r:=Qy bytes
 have i:bytes.length<=1048576:=hs.bytes
 unfold QG
 dsimp only
 cases n:Jt first with
 | false=>
  have c:=Qhi j (pB_f.1 n)
  repeat'(first|(refine zhm fun hb=>?_;try exact zab)|refine Qd ?_|(apply zch;exact zcg)|exact zhk|refine zg3 ?_ ?_|intro _)
  refine zr [] ?_ ?_
  repeat'(first|exact ze3|refine ze2 ?_ ?_|refine ze4 ?_|exact ze5|fail)
  all_goals exact zp rfl
 | true=>
  have c:=dc_a (Qdt j (pB_t.1 n))
  cases t with
  | true=>
   have l:=Qhk hs.ctl
   have m:=ZX (a:=ctl.first) (b:=first) (hs.ctl.first.mono (by omega)) j
   cases p:J9 ctl with
   | false=>
    rw[p]at l
    repeat'(first|(refine zhm fun hb=>?_;try exact zab)|refine Qd ?_|(apply zch;exact zcg)|exact zhk|refine zg3 ?_ ?_|refine kmu c ?_|intro _)
    refine zr [] ?_ ?_
    repeat'(first|exact ze3|refine ze2 ?_ ?_|refine ze4 ?_|exact ze5|fail)
    all_goals exact zp rfl
   | true=>
    rw[p]at l
    cases q:Xd ctl.first first with
    | false=>
     rw[q]at m
     repeat'(first|(refine zhm fun hb=>?_;try exact zab)|refine Qd ?_|(apply zch;exact zcg)|exact zhk|refine zg3 ?_ ?_|refine kmu c ?_|intro _)
     refine zr [] ?_ ?_
     repeat'(first|exact ze3|refine ze2 ?_ ?_|refine ze4 ?_|exact ze5|fail)
     all_goals exact zp rfl
    | true=>
     rw[q]at m
     repeat'(first|(refine zhm fun hb=>?_;try exact zab)|refine Qd ?_|(apply zch;exact zcg)|exact zhk|refine zg3 ?_ ?_|refine kmu c ?_|intro _)
     all_goals
      refine zr [] ?_ ?_
      repeat'(first|exact ze3|refine ze2 ?_ ?_|refine ze4 ?_|exact ze5|fail)
      all_goals first|exact zp rfl|exact zp (beqN _)
  | false=>
   have e:=Qj4 (s:=first) (b:=bytes) hs.first i
   have g:=Qqw hs.ctl
   generalize hF:Yr first bytes=F at e ⊢
   obtain⟨o,k⟩:=F
   cases o with
   | none=>
    dsimp only[coR,coB]at e
    cases f:Z7 ctl with
    | false=>
     rw[f]at g
     repeat'(first|(refine zhm fun hb=>?_;try exact zab)|refine Qd ?_|(apply zch;exact zcg)|exact zhk|refine zg3 ?_ ?_|refine kmu c ?_|intro _)
     refine zr [] ?_ ?_
     repeat'(first|exact ze3|refine ze2 ?_ ?_|refine ze4 ?_|exact ze5|fail)
     all_goals exact zp rfl
    | true=>
     rw[f]at g
     repeat'(first|(refine zhm fun hb=>?_;try exact zab)|refine Qd ?_|(apply zch;exact zcg)|exact zhk|refine zg3 ?_ ?_|refine kmu c ?_|intro _)
     refine zr [] ?_ ?_
     repeat'(first|exact ze3|refine ze2 ?_ ?_|refine ze4 ?_|exact ze5|fail)
     all_goals first|exact zp rfl
   | some x=>
    have e:=dc_a e
    dsimp only[coR,coB]at e
    cases f:Z7 ctl with
    | false=>
     rw[f]at g
     repeat'(first|(refine zhm fun hb=>?_;try exact zab)|refine Qd ?_|(apply zch;exact zcg)|exact zhk|refine zg3 ?_ ?_|refine kmu c ?_|refine kmu e ?_|intro _)
     refine zr [] ?_ ?_
     repeat'(first|exact ze3|refine ze2 ?_ ?_|refine ze4 ?_|exact ze5|fail)
     all_goals exact zp rfl
    | true=>
     rw[f]at g
     repeat'(first|(refine zhm fun hb=>?_;try exact zab)|refine Qd ?_|(apply zch;exact zcg)|exact zhk|refine zg3 ?_ ?_|refine kmu c ?_|refine kmu e ?_|intro _)
     refine zr [] ?_ ?_
     repeat'(first|exact ze3|refine ze2 ?_ ?_|refine ze4 ?_|exact ze5|fail)
     all_goals first|exact zp rfl
theorem QpJ{w:Wld}(hs:Zh w):zAc 128 [wldA w] [.d (.b (QG w))] []:=by
 refine zAC func128 fun w0 Z=>?_
 obtain⟨t,first,ctl,bytes,f⟩:=w
 have h:Qj 100000000 first:=hs.first.mono (by omega)
 have r:=Qy bytes
 have g:bytes.length<=1048576:=hs.bytes
 unfold QG
 dsimp only
 cases m:Jt first with
 | false=>
  have e:=Wj h
  rw[m]at e
  repeat'(first|(refine zhm fun hb=>?_;try exact zab)|refine Qd ?_|(apply zch;exact zcg)|exact zhk|refine zg3 ?_ ?_|intro _)
  refine zr [] ?_ ?_
  repeat'(first|exact ze3|refine ze2 ?_ ?_|refine ze4 ?_|exact ze5|fail)
  all_goals exact zp rfl
 | true=>
  have e:=Wj h
  rw[m]at e
  cases t with
  | true=>
   have i:=Qqg hs.ctl
   have j:=QdX (a:=ctl.first) (b:=first) (hs.ctl.first.mono (by omega)) h
   cases n:J9 ctl with
   | false=>
    rw[n]at i
    repeat'(first|(refine zhm fun hb=>?_;try exact zab)|refine Qd ?_|(apply zch;exact zcg)|exact zhk|refine zg3 ?_ ?_|intro _)
    refine zr [] ?_ ?_
    repeat'(first|exact ze3|refine ze2 ?_ ?_|refine ze4 ?_|exact ze5|fail)
    all_goals exact zp rfl
   | true=>
    rw[n]at i
    cases p:Xd ctl.first first with
    | false=>
     rw[p]at j
     repeat'(first|(refine zhm fun hb=>?_;try exact zab)|refine Qd ?_|(apply zch;exact zcg)|exact zhk|refine zg3 ?_ ?_|intro _)
     refine zr [] ?_ ?_
     repeat'(first|exact ze3|refine ze2 ?_ ?_|refine ze4 ?_|exact ze5|fail)
     all_goals exact zp rfl
    | true=>
     rw[p]at j
     repeat'(first|(refine zhm fun hb=>?_;try exact zab)|refine Qd ?_|(apply zch;exact zcg)|exact zhk|refine zg3 ?_ ?_|intro _)
     all_goals
      refine zr [] ?_ ?_
      repeat'(first|exact ze3|refine ze2 ?_ ?_|refine ze4 ?_|exact ze5|fail)
      all_goals first|exact zp rfl|exact zp (beqN _)
  | false=>
   have c:=Qrp (s:=first) (b:=bytes) hs.first g
   have l:=Qv5 hs.ctl
   generalize hF:Yr first bytes=F at c ⊢
   obtain⟨o,k⟩:=F
   dsimp only at c
   cases q:Z7 ctl with
   | false=>
    rw[q]at l
    repeat'(first|(refine zhm fun hb=>?_;try exact zab)|refine Qd ?_|(apply zch;exact zcg)|exact zhk|refine zg3 ?_ ?_|refine kmu c ?_|intro _)
    refine zr [] ?_ ?_
    repeat'(first|exact ze3|refine ze2 ?_ ?_|refine ze4 ?_|exact ze5|fail)
    all_goals exact zp rfl
   | true=>
    rw[q]at l
    repeat'(first|(refine zhm fun hb=>?_;try exact zab)|refine Qd ?_|(apply zch;exact zcg)|exact zhk|refine zg3 ?_ ?_|refine kmu c ?_|intro _)
    refine zr [] ?_ ?_
    repeat'(first|exact ze3|refine ze2 ?_ ?_|refine ze4 ?_|exact ze5|fail)
    all_goals first|exact zp rfl
end
section
attribute [local irreducible] AWp QI OpOk ACalls ChA QsOk MCalls EnC PY
def gB(k j:Nat):UInt8:=UInt8.ofNat (k+j)
def kCt(k:Nat)(c:Ctl):Nat:=kSt (kSt k c.first) c.state+c.jn.bytes.length
def mCt(k:Nat)(c:Ctl):Ctl:=⟨mSt k c.first,mSt (kSt k c.first) c.state,⟨QeZ (gB (kSt (kSt k c.first) c.state)) c.jn.bytes.length,c.jn.synced,c.jn.count⟩⟩
@[reducible] def QzH (c:Ctl):List (Nat×AO):=[(1000000,.row 3 (intE c.first.topo.parents) true),(1000001,.row 62 (Qw c.first.topo.nodes) true),(1000002,.row 4 (Qp c.first.up) true),(1000003,.row 40 (jobE c.first.queue) true),(1000004,.row 66 (runE c.first.runs) true),(1000005,.row 123 (endE c.first.ends) true),(1000006,.row 3 (intE c.state.topo.parents) true),(1000007,.row 62 (Qw c.state.topo.nodes) true),(1000008,.row 4 (Qp c.state.up) true),(1000009,.row 40 (jobE c.state.queue) true),(1000010,.row 66 (runE c.state.runs) true),(1000011,.row 123 (endE c.state.ends) true),(1000012,.row 5 (QK (c).jn.bytes) true)]
end
end Go.Proofs.YtkdniahincpmaaaGreat
