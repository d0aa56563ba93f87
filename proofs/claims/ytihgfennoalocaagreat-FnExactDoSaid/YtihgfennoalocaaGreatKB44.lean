/-
  No controller; Found as data; WorldOk, both; its law, without its argument.
-/
import Derived.Test.YtihgfennoalocaaGreatKB42
import Derived.Test.YtihgfennoalocaaGreatKB40
set_option maxRecDepth 100000
set_option maxHeartbeats 16000000
namespace Go.Proofs.YtihgfennoalocaaGreat
open Go Go.RowKit Tryz
section
attribute [local irreducible] AWp QJ OpOk ACalls ChA QsOk MCalls NCalls EnC PY

def noJn(j:QV):Bool:=decide (j.bytes.length=0)&&(decide (j.synced=0)&&decide (j.count=0))
noncomputable def QbM (c:Ctl):Bool:=pB (c.first=zS)&&(pB (c.state=zS)&&noJn c.jn)
theorem Qh6{n:Nat}{s c:Int}(h1:n=0)(h2:s=0):(c==0)=(decide (n=0)&&(decide (s=0)&&decide (c=0))):=by
 subst h1;subst h2
 by_cases h:c=0 <;> simp[h]
theorem Qne{n:Nat}{s c:Int}(h:n≠0\/s≠0):false=(decide (n=0)&&(decide (s=0)&&decide (c=0))):=by
 rcases h with h|h <;> simp[h]
theorem QoT{c:Ctl}(hs:JI 1048576 c):zAc 67 [ctlA c] [.d (.b (QbM c))] []:=by
 refine zAC func67 fun w0 Z=>?_
 have c1:=Zd (s:=c.first) (u:=zS) (hs.first.mono (by omega))
 have c2:=Zd (s:=c.state) (u:=zS) (hs.state.mono (by omega))
 have hb:=Qj c.jn.bytes
 have hbl:=hs.jn
 unfold QbM noJn
 cases h1:pB (c.first=zS) with
 | false=>
  rw[h1]at c1
  repeat'(first|(refine zhm fun hb=>?_;try exact zab)|refine Qe ?_|(apply zch;exact zcg)|exact zhk|refine zg3 ?_ ?_|intro _|fail)
  refine zr [] ?_ ?_
  repeat'(first|exact ze3|refine ze2 ?_ ?_|refine ze4 ?_|exact ze5|fail)
  all_goals exact zp rfl
 | true=>
  rw[h1]at c1
  cases h2:pB (c.state=zS) with
  | false=>
   rw[h2]at c2
   repeat'(first|(refine zhm fun hb=>?_;try exact zab)|refine Qe ?_|(apply zch;exact zcg)|exact zhk|refine zg3 ?_ ?_|intro _|fail)
   refine zr [] ?_ ?_
   repeat'(first|exact ze3|refine ze2 ?_ ?_|refine ze4 ?_|exact ze5|fail)
   all_goals exact zp rfl
  | true=>
   rw[h2]at c2
   repeat'(first|(refine zhm fun hb=>?_;try exact zab)|refine Qe ?_|(apply zch;exact zcg)|exact zhk|refine zg3 ?_ ?_|intro _|fail)
   all_goals
    refine zr [] ?_ ?_
    repeat'(first|exact ze3|refine ze2 ?_ ?_|refine ze4 ?_|exact ze5|fail)
    all_goals first|exact zp rfl|exact zp (Qh6 (by omega) (by omega))|exact zp (Qne (by omega))
theorem QiQ{s:Qd}(h1:s.topo.parents.length=0)(h2:s.topo.nodes.length=0)(h3:s.up.length=0)(h4:s.lic=⟨0,0,0⟩)(h5:s.depth=0)(h6:s.now=0)(h7:s.queue.length=0)(h8:s.runs.length=0)(h9:s.ends.length=0):s=zS:=by
 obtain⟨⟨p,n⟩,u,l,d,w,q,r,e⟩:=s
 simp only[Xbi]at *
 subst h1;subst h2;subst h3;subst h4;subst h5;subst h6;subst h7;subst h8;subst h9
 rfl
theorem Qha{s:Qd}(h:Ql 1048576 s):zAc 133 [Qx s] [.d (.b (pB (s=zS)))] []:=by
 refine zAC func133 fun w0 Z=>?_
 have h1:=Qb s.topo.parents
 have h2:=Qr s.topo.nodes
 have h3:=Qo s.up
 have h4:=Qk s.queue
 have h5:=Qf s.runs
 have h6:=QC s.ends
 have k1:=h.par
 have k2:=h.nod
 have k3:=h.up
 have k4:=h.que
 have k5:=h.run
 have k6:=h.end'
 by_cases e:s=zS
 ·subst e
  rw[pB_t.2 rfl]
  repeat'(first|(refine zhm fun hb=>?_;try exact zab)|refine Qe ?_|(apply zch;exact zcg)|exact zhk|refine zg3 ?_ ?_|intro _|fail)
  all_goals first|exact absurd rfl (Qc0.1 (by assumption))|exact absurd rfl (by assumption)|skip
  all_goals
   refine zr [] ?_ ?_
   repeat'(first|exact ze3|refine ze2 ?_ ?_|refine ze4 ?_|exact ze5|fail)
   all_goals exact zp rfl
 ·rw[pB_f.2 e]
  repeat'(first|(refine zhm fun hb=>?_;try exact zab)|refine Qe ?_|(apply zch;exact zcg)|exact zhk|refine zg3 ?_ ?_|intro _|fail)
  all_goals
   refine zr [] ?_ ?_
   repeat'(first|exact ze3|refine ze2 ?_ ?_|refine ze4 ?_|exact ze5|fail)
   all_goals first|exact zp rfl|exact zp (decide_eq_false fun hE=>e (QiQ (by omega) (by omega) (by omega) (Qen.1 (by assumption)) (by omega) (by omega) (by omega) (by omega) (by omega))).symm|exact zp (beq_eq_false_iff_ne.2 fun hE=>e (QiQ (by omega) (by omega) (by omega) (Qen.1 (by assumption)) (by omega) (by omega) (by omega) (by omega) (by omega)))|exact zp (beq_eq_false_iff_ne.2 fun hE=>e (QiQ (by omega) (by omega) (by omega) (Qen.1 (by assumption)) (by omega) (by omega) (by omega) (by omega) (by omega))).symm
theorem Qsl{c:Ctl}(hs:JI 1048576 c):zAc 65 [ctlA c] [.d (.b (QbM c))] []:=by
 refine zAC func65 fun w0 Z=>?_
 have c1:=Qha hs.first
 have c2:=Qha hs.state
 have hb:=Qj c.jn.bytes
 have hbl:=hs.jn
 unfold QbM noJn
 cases h1:pB (c.first=zS) with
 | false=>
  rw[h1]at c1
  repeat'(first|(refine zhm fun hb=>?_;try exact zab)|refine Qe ?_|(apply zch;exact zcg)|exact zhk|refine zg3 ?_ ?_|intro _|fail)
  refine zr [] ?_ ?_
  repeat'(first|exact ze3|refine ze2 ?_ ?_|refine ze4 ?_|exact ze5|fail)
  all_goals exact zp rfl
 | true=>
  rw[h1]at c1
  cases h2:pB (c.state=zS) with
  | false=>
   rw[h2]at c2
   repeat'(first|(refine zhm fun hb=>?_;try exact zab)|refine Qe ?_|(apply zch;exact zcg)|exact zhk|refine zg3 ?_ ?_|intro _|fail)
   refine zr [] ?_ ?_
   repeat'(first|exact ze3|refine ze2 ?_ ?_|refine ze4 ?_|exact ze5|fail)
   all_goals exact zp rfl
  | true=>
   rw[h2]at c2
   repeat'(first|(refine zhm fun hb=>?_;try exact zab)|refine Qe ?_|(apply zch;exact zcg)|exact zhk|refine zg3 ?_ ?_|intro _|fail)
   all_goals
    refine zr [] ?_ ?_
    repeat'(first|exact ze3|refine ze2 ?_ ?_|refine ze4 ?_|exact ze5|fail)
    all_goals first|exact zp rfl|exact zp (Qh6 (by omega) (by omega))|exact zp (Qne (by omega))

inductive RpK
 | fst
 | nxt (s:Qd) (i:Nat)
@[reducible] def rpS (s0:Qd) (l:List (List UInt8)):RpK->AS
 | .fst=>⟨38,[(2,.ptr 2 0),(4,.ptr 4 0),(12,zL (strE l)),(13,zI (l.length:Nat)),(14,zI 0)],[(2,.box 49 (JB s0)),(4,.box 49 ctl0)]⟩
 | .nxt s i=>⟨38,[(2,.ptr 2 0),(4,.ptr 4 0),(12,zL (strE l)),(13,zI (l.length:Nat)),(14,zI i)],[(2,.box 49 (stC s 29 1029 2029 3029 4029 5029)),(4,.box 49 ctl0),(29,.row 3 (intE s.topo.parents) true),(1029,.row 225 (Qz s.topo.nodes) true),(2029,.row 4 (Qq s.up) true),(3029,.row 72 (jobE s.queue) true),(4029,.row 170 (runE s.runs) true),(5029,.row 172 (endE s.ends) true)]⟩
def rpP(l:List (List UInt8))(R:Option Qd):RpK->Prop
 | .fst=>True
 | .nxt s i=>i<=l.length/\Ql 1048576 s/\repO s (l.drop i)=R
def rpM(l:List (List UInt8)):RpK->Nat
 | .fst=>l.length+1
 | .nxt _ i=>l.length-i
theorem QlK{s:Qd}{l:List (List UInt8)}(hs:Ql 1048576 s)(h0:0<l.length)(hl:l.length<=1000000000)(hr:∀r∈l,r.length<=1000000000):zAc 60 [Qx s,zL (strE l)] (unR (repO s l)) (stB (repO s l)):=by
 refine zAC func60 fun w0 Z=>?_
 have hle:=QK l
 have hR:repO s (l.drop 0)=repO s l:=by rw[XbM]
 generalize repO s l=R at hR ⊢
 repeat'(first|(refine zhm fun hb=>?_;try exact zab)|refine Qe ?_|(apply zch;exact zcg)|exact zhk|refine zg3 ?_ ?_|intro _|fail)
 refine Qa (rpS s l) (rpP l R) (rpM l) .fst trivial ?_ ?_
 ·refine⟨rfl,?_,?_,rfl⟩
  repeat'(first|exact ze3|refine ze2 ?_ ?_|refine ze4 ?_|exact ze5|fail)
  all_goals exact zp (by first|rfl|exact QK _)
 rintro (_|⟨s1,n⟩) hk
 ·have c1:=QdR (s:=nth l 0) (hr _ (QO h0))
  generalize ht:J7 (nth l 0)=tc at c1
  obtain⟨c,tb⟩:=tc
  dsimp only at c1
  dsimp only[rpS]
  cases tb with
  | false=>
   rw[QdL h0 (by rw[ht])]at hR
   subst hR
   repeat'(first|(refine zhm fun hb=>?_;try exact zab)|refine Qe ?_|(apply zch;exact zcg)|exact zhk|refine zg3 ?_ ?_|intro _|fail)
   all_goals
    refine zr [] ?_ ?_
    repeat'(first|exact ze3|refine ze2 ?_ ?_|refine ze4 ?_|exact ze5|fail)
    all_goals exact zp rfl
  | true=>
   have hap:=Y3 (c:=c) hs
   have c2:=QdS (c:=c) hs
   rcases Yp (s:=s) (c:=c)with ⟨s2,h2⟩|⟨k,h2,hk2⟩
   ·rw[h2]at c2 hap
    dsimp only[SO,stR,stB]at c2
    rw[Qax h0 ht (by rw[h2])]at hR
    repeat'(first|(refine zhm fun hb=>?_;try exact zab)|refine Qe ?_|(apply zch;exact zcg)|exact zhk|refine zg3 ?_ ?_|intro _|fail)
    all_goals
     refine⟨.nxt s2 1,⟨by omega,hap s2 rfl,hR⟩,by dsimp only[rpM];omega,?_⟩
     refine⟨rfl,?_,?_,rfl⟩
     repeat'(first|exact ze3|refine ze2 ?_ ?_|refine ze4 ?_|exact ze5|fail)
     all_goals exact zp rfl
   ·rw[h2]at c2
    dsimp only[SO,stR,stB]at c2
    rw[X8 h0 ht (by rw[h2])]at hR
    subst hR
    repeat'(first|(refine zhm fun hb=>?_;try exact zab)|refine Qe ?_|(apply zch;exact zcg)|exact zhk|refine zg3 ?_ ?_|intro _|fail)
    all_goals
     refine zr [] ?_ ?_
     repeat'(first|exact ze3|refine ze2 ?_ ?_|refine ze4 ?_|exact ze5|fail)
     all_goals exact zp rfl
 ·obtain⟨hin,hs1,hR1⟩:=hk
  dsimp only[rpS]
  refine J8 29 39 rfl ?_
  refine J8 1029 1039 rfl ?_
  refine J8 2029 2039 rfl ?_
  refine J8 3029 3039 rfl ?_
  refine J8 4029 4039 rfl ?_
  refine J8 5029 5039 rfl ?_
  by_cases hi':n<l.length
  ·have c1:=QdR (s:=nth l n) (hr _ (QO hi'))
   generalize ht:J7 (nth l n)=tc at c1
   obtain⟨c,tb⟩:=tc
   dsimp only at c1
   cases tb with
   | false=>
    rw[QdL hi' (by rw[ht])]at hR1
    subst hR1
    repeat'(first|(refine zhm fun hb=>?_;try exact zab)|refine Qe ?_|(apply zch;exact zcg)|exact zhk|refine zg3 ?_ ?_|intro _|fail)
    all_goals
     refine zr [] ?_ ?_
     repeat'(first|exact ze3|refine ze2 ?_ ?_|refine ze4 ?_|exact ze5|fail)
     all_goals exact zp rfl
   | true=>
    have hap:=Y3 (c:=c) hs1
    have c2:=QdS (c:=c) hs1
    rcases Yp (s:=s1) (c:=c)with ⟨s2,h2⟩|⟨k,h2,hk2⟩
    ·rw[h2]at c2 hap
     dsimp only[SO,stR,stB]at c2
     rw[Qax hi' ht (by rw[h2])]at hR1
     repeat'(first|(refine zhm fun hb=>?_;try exact zab)|refine Qe ?_|(apply zch;exact zcg)|exact zhk|refine zg3 ?_ ?_|intro _|fail)
     all_goals
      refine⟨.nxt s2 (n+1),⟨by omega,hap s2 rfl,hR1⟩,by dsimp only[rpM];omega,?_⟩
      refine⟨rfl,?_,?_,rfl⟩
      repeat'(first|exact ze3|refine ze2 ?_ ?_|refine ze4 ?_|exact ze5|fail)
      all_goals exact zp rfl
    ·rw[h2]at c2
     dsimp only[SO,stR,stB]at c2
     rw[X8 hi' ht (by rw[h2])]at hR1
     subst hR1
     repeat'(first|(refine zhm fun hb=>?_;try exact zab)|refine Qe ?_|(apply zch;exact zcg)|exact zhk|refine zg3 ?_ ?_|intro _|fail)
     all_goals
      refine zr [] ?_ ?_
      repeat'(first|exact ze3|refine ze2 ?_ ?_|refine ze4 ?_|exact ze5|fail)
      all_goals exact zp rfl
  ·obtain rfl:n=l.length:=by omega
   rw[XcL]at hR1
   subst hR1
   repeat'(first|(refine zhm fun hb=>?_;try exact zab)|refine Qe ?_|(apply zch;exact zcg)|exact zhk|refine zg3 ?_ ?_|intro _|fail)
   refine zr [39,1039,2039,3039,4039,5039] ?_ ?_
   repeat'(first|exact ze3|refine ze2 ?_ ?_|refine ze4 ?_|exact ze5|fail)
   all_goals exact zp rfl
@[reducible] def stMM (s:Qd):List (Nat×AO):=[(1000000,.row 3 (intE s.topo.parents) true),(1000001,.row 225 (Qz s.topo.nodes) true),(1000002,.row 4 (Qq s.up) true),(1000003,.row 72 (jobE s.queue) true),(1000004,.row 170 (runE s.runs) true),(1000005,.row 172 (endE s.ends) true)]
@[reducible] def QuT (s:Qd) (q0 q1 q2 q3 q4 q5:Nat):List AV:=[.sub q0 0 (intE s.topo.parents).length,.sub q1 0 (Qz s.topo.nodes).length,.sub q2 0 (Qq s.up).length,zI s.lic.a,zI s.lic.b,zI s.lic.c,zI s.depth,zI s.now,.sub q3 0 (jobE s.queue).length,.sub q4 0 (runE s.runs).length,.sub q5 0 (endE s.ends).length]
@[reducible] def QuX (s:Qd):AV:=.agg [zL (((intE s.topo.parents).take (intE s.topo.parents).length).drop 0),zL (((Qz s.topo.nodes).take (Qz s.topo.nodes).length).drop 0),zL (((Qq s.up).take (Qq s.up).length).drop 0),zI s.lic.a,zI s.lic.b,zI s.lic.c,zI s.depth,zI s.now,zL (((jobE s.queue).take (jobE s.queue).length).drop 0),zL (((runE s.runs).take (runE s.runs).length).drop 0),zL (((endE s.ends).take (endE s.ends).length).drop 0)]
theorem QiG{s:Qd}(hs:Ql 100000000 s):zAc 89 [QuX s] [ZL s 0 1 2 3 4 5] (QbO s):=by
 have e:∀es:List (List D),(es.take es.length).drop 0=es:=fun es=>by rw[Xap,XbM]
 unfold QuX
 simp only[e]
 exact Jr hs
theorem QlE{s:Qd}:MCalls Tryz.prog 60 [ZL s 1000000 1000001 1000002 1000003 1000004 1000005,zL (strE [])] (stMM s) (fun _:Unit=>True) (fun _=>[.agg (QuT s 1000000 1000001 1000002 1000003 1000004 1000005),.d (.b true)]) (fun _=>stMM s) (fun _=>[]):=by
 refine Ji tt func60 rfl rfl rfl ⟨.inl rfl,.inl rfl,.inl rfl,.inl rfl,.inl rfl,.inl rfl,trivial⟩ (fun _ _=>⟨⟨⟨rfl,rfl,rfl⟩,⟨rfl,rfl,rfl⟩,⟨rfl,rfl,rfl⟩,⟨rfl,rfl,rfl⟩,⟨rfl,rfl,rfl⟩,⟨rfl,rfl,rfl⟩,trivial⟩,.inl rfl,.inl rfl,.inl rfl,.inl rfl,.inl rfl,.inl rfl,trivial⟩) (fun w0 Z O=>?_)
 refine Qbd 0 1000000 rfl ?_
 refine Qbd 0 1000001 rfl ?_
 refine Qbd 0 1000002 rfl ?_
 refine Qbd 0 1000003 rfl ?_
 refine Qbd 0 1000004 rfl ?_
 refine Qbd 0 1000005 rfl ?_
 repeat'(first|(refine zhm fun hb=>?_;try exact zab)|refine Qe ?_|(apply zch;exact zcg)|exact zhk|refine zg3 ?_ ?_|intro _|fail)
 refine Qa (fun(_:Unit)=>⟨38,[(2,.ptr 2 0),(4,.ptr 4 0),(12,zL []),(13,zI 0),(14,zI 0)],[(2,.box 49 (QuT s 1000000 1000001 1000002 1000003 1000004 1000005)),(4,.box 49 ctl0),(1000000,.row 3 (intE s.topo.parents) true),(1000001,.row 225 (Qz s.topo.nodes) true),(1000002,.row 4 (Qq s.up) true),(1000003,.row 72 (jobE s.queue) true),(1000004,.row 170 (runE s.runs) true),(1000005,.row 172 (endE s.ends) true)]⟩) (fun _=>True) (fun _=>0) () trivial ?_ ?_
 ·refine⟨rfl,?_,?_,rfl⟩
  repeat'(first|exact ze3|refine ze2 ?_ ?_|refine ze4 ?_|exact ze5|fail)
  all_goals exact zp rfl
 ·intro _ _
  repeat'(first|(refine zhm fun hb=>?_;try exact zab)|refine Qe ?_|(apply zch;exact zcg)|exact zhk|refine zg3 ?_ ?_|intro _|fail)
  refine zp ?_
  refine YC () [] (by exact trivial) rfl ?_ ?_ ?_
  all_goals exact zae
def zC:Ctl:=⟨zS,zS,⟨[],0,0⟩⟩
noncomputable def VP (s:Qd) (b:List UInt8):Option Ctl×Int:=
 if WP s=true/\b.length<=40000 then match Qeg s b with
  | none=>(none,2)
  | some s'=>(some ⟨s,s',Z3 b⟩,0)
 else(none,1)
@[reducible] def ctl00:List AV:=ctl0++(ctl0++[.nil,zI 0,zI 0])
@[reducible] def Qtd (c:Ctl):AV:=.agg (stC c.first 0 1 2 3 4 5++(stC c.state 6 7 8 9 10 11++[.row 12,zI c.jn.synced,zI c.jn.count]))
@[reducible] def Qvc (c:Ctl):List (Nat×AO):=[(0,.row 3 (intE c.first.topo.parents) true),(1,.row 225 (Qz c.first.topo.nodes) true),(2,.row 4 (Qq c.first.up) true),(3,.row 72 (jobE c.first.queue) true),(4,.row 170 (runE c.first.runs) true),(5,.row 172 (endE c.first.ends) true),(6,.row 3 (intE c.state.topo.parents) true),(7,.row 225 (Qz c.state.topo.nodes) true),(8,.row 4 (Qq c.state.up) true),(9,.row 72 (jobE c.state.queue) true),(10,.row 170 (runE c.state.runs) true),(11,.row 172 (endE c.state.ends) true),(12,.row 5 (QG c.jn.bytes) true)]
@[reducible] def coR (o:Option Ctl) (k:Int):List AV:=match o with
 | none=>[.agg ctl00,zI k]
 | some c=>[Qtd c,zI k]
@[reducible] def coB (o:Option Ctl):List (Nat×AO):=match o with
 | none=>[]
 | some c=>Qvc c
theorem QoA{s:Qd}{b:List UInt8}(hs:Ql 1048576 s)(hb:b.length<=1048576):zAc 32 [Qx s,zL (QG b)] (coR (VP s b).1 (VP s b).2) (coB (VP s b).1):=by
 refine zAC func32 fun w0 Z=>?_
 have hf:Ql 100000000 s:=hs.mono (by omega)
 have hbe:=Qj b
 unfold VP
 cases h1:WP s with
 | false=>
  have c1:=Qfj hf (pB_f.1 h1)
  rw[if_neg (fun h=>by cases h.1)]
  repeat'(first|(refine zhm fun hb=>?_;try exact zab)|refine Qe ?_|(apply zch;exact zcg)|exact zhk|refine zg3 ?_ ?_|intro _|fail)
  refine zr [] ?_ ?_
  repeat'(first|exact ze3|refine ze2 ?_ ?_|refine ze4 ?_|exact ze5|fail)
  all_goals exact zp rfl
 | true=>
  by_cases hl:b.length<=40000
  ·have c1:=Qcn hf (pB_t.1 h1)
   have c2:=Qgl hl
   obtain⟨hrl,hr⟩:=Qgg b
   have c3:=dc_a (WF (b:=b) (by omega))
   have hrr:∀r∈(Q8 b).1,r.length<=1000000000:=fun r hr'=>Xao (hr r hr') (by omega)
   have hsm:=WK (l:=(Q8 b).1) (s:=s) (s':=(repO s (Q8 b).1).getD zS) hs
   rw[if_pos ⟨rfl,hl⟩]
   unfold Qeg
   generalize (Q8 b).1=l at hrl hr c3 hrr hsm ⊢
   by_cases h0:0<l.length
   ·have c4:=QlK hs h0 (by omega) hrr
    cases h3:repO s l with
    | none=>
     rw[h3]at c4
     dsimp only[unR,stB]at c4
     repeat'(first|(refine zhm fun hb=>?_;try exact zab)|refine Qe ?_|(apply zch;exact zcg)|exact zhk|refine zg3 ?_ ?_|refine kmu c3 ?_|intro _|fail)
     refine zr [] ?_ ?_
     repeat'(first|exact ze3|refine ze2 ?_ ?_|refine ze4 ?_|exact ze5|fail)
     all_goals exact zp rfl
    | some s'=>
     rw[h3]at c4 hsm
     dsimp only[unR,stB,Option.getD]at c4 hsm
     have c5:=Jr (s:=s') ((hsm rfl).mono (by omega))
     repeat'(first|(refine zhm fun hb=>?_;try exact zab)|refine Qe ?_|(apply zch;exact zcg)|exact zhk|refine zg3 ?_ ?_|refine kmu c3 ?_|intro _|fail)
     refine zr [14,1014,2014,3014,4014,5014,44,1044,2044,3044,4044,5044,26] ?_ ?_
     repeat'(first|exact ze3|refine ze2 ?_ ?_|refine ze4 ?_|exact ze5|fail)
     all_goals exact zp rfl
   ·obtain rfl:l=[]:=Xbi.1 (by omega)
    have c4:=QlE (s:=s)
    have c5:=QiG (s:=s) hf
    rw[show repO s []=some s from rfl]
    repeat'(first|(refine zhm fun hb=>?_;try exact zab)|refine Qe ?_|(apply zch;exact zcg)|exact zhk|refine zg3 ?_ ?_|refine kmu c3 ?_|(refine km [14,1014,2014,3014,4014,5014] (c4) rfl rfl (fun i hi=>?_);try dsimp only at hi)|intro _|fail)
    refine zr [14,1014,2014,3014,4014,5014,44,1044,2044,3044,4044,5044,26] ?_ ?_
    repeat'(first|exact ze3|refine ze2 ?_ ?_|refine ze4 ?_|exact ze5|fail)
    all_goals exact zp rfl
  ·have c1:=dc_a (Qcn hf (pB_t.1 h1))
   rw[if_neg (fun h=>hl h.2)]
   repeat'(first|(refine zhm fun hb=>?_;try exact zab)|refine Qe ?_|(apply zch;exact zcg)|exact zhk|refine zg3 ?_ ?_|refine kmu c1 ?_|intro _|fail)
   refine zr [] ?_ ?_
   repeat'(first|exact ze3|refine ze2 ?_ ?_|refine ze4 ?_|exact ze5|fail)
   all_goals exact zp rfl
theorem Qoh(s:Qd)(b:List UInt8):Qeg s (Z3 b).bytes=Qeg s b:=by
 unfold Qeg Z3
 rw[QlB]
theorem Qos{s:Qd}{b:List UInt8}(hs:Ql 1048576 s)(hb:b.length<=1048576):DC Tryz.prog 29 [Qx s,zL (QG b)] [ctlA ((VP s b).1.getD zC),zI (VP s b).2]:=by
 refine zMC func29 fun w0 Z O=>?_
 have hf:Ql 100000000 s:=hs.mono (by omega)
 have hbe:=Qj b
 have c1:=Xt hf
 unfold VP
 cases h1:WP s with
 | false=>
  rw[h1]at c1
  rw[if_neg (fun h=>by cases h.1)]
  repeat'(first|(refine zhm fun hb=>?_;try exact zab)|refine Q7 ?_|(apply zch;exact zcg)|exact zhk|refine zg3 ?_ ?_|intro _|fail)
  exact zDR
 | true=>
  rw[h1]at c1
  by_cases hl:b.length<=40000
  ·rw[if_pos ⟨rfl,hl⟩]
   have c2:=dc_a (QfO hl)
   have hjl:(Z3 b).bytes.length<=40000:=by unfold Z3;exact Xao (Xcr _ _) hl
   have c4:=Qhc (b:=(Z3 b).bytes) hs (by omega)
   have hpo:=Qoh s b
   unfold Qeg at hpo
   rw[hpo]at c4
   unfold Qeg
   have hsm:=WK (l:=(Q8 b).1) (s:=s) (s':=(repO s (Q8 b).1).getD zS) hs
   generalize Z3 b=j at c2 c4 ⊢
   have hje:=Qj j.bytes
   cases h3:repO s (Q8 b).1 with
   | none=>
    rw[h3]at c4
    dsimp only[Option.getD,Option.isSome]at c4
    repeat'(first|(refine zhm fun hb=>?_;try exact zab)|refine Q7 ?_|(apply zch;exact zcg)|exact zhk|refine zg3 ?_ ?_|refine kmu c2 ?_|refine kmu c4 ?_|intro _|fail)
    exact zDR
   | some s'=>
    rw[h3]at c4 hsm
    dsimp only[Option.getD,Option.isSome]at c4 hsm
    have c5:=QgN (s:=s) hf
    have c6:=QgN (s:=s') ((hsm rfl).mono (by omega))
    repeat'(first|(refine zhm fun hb=>?_;try exact zab)|refine Q7 ?_|(apply zch;exact zcg)|exact zhk|refine zg3 ?_ ?_|refine kmu c2 ?_|refine kmu c4 ?_|refine kmu c5 ?_|refine kmu c6 ?_|intro _|fail)
    exact zDR
  ·rw[if_neg (fun h=>hl h.2)]
   repeat'(first|(refine zhm fun hb=>?_;try exact zab)|refine Q7 ?_|(apply zch;exact zcg)|exact zhk|refine zg3 ?_ ?_|intro _|fail)
   exact zDR
end
section
attribute [local irreducible] AWp QJ OpOk ACalls ChA QsOk MCalls EnC PY
theorem Zu{l:List UInt8}(h:l.length<=1048576):zAc 31 [zL (QG l)] [.row 0] [(0,.row 5 (QG l) true)]:=by
 refine zAC func31 fun w0 Z=>?_
 have hl:=Qj l
 repeat'(first|(refine zhm fun hb=>?_;try exact zab)|refine zUtp ?_|refine zg2 ?_ ?_|intro _|fail)
 refine Qa (fun(i:Nat)=>⟨22,[(0,zL (QG l)),(3,.row 7),(4,zI i)],[(7,.row 5 (QG (cpyL l 0 i)) true)]⟩) (fun i=>i<=l.length) (fun i=>l.length-i) 0 (by exact Xab _) ?_ ?_
 ·refine⟨rfl,?_,?_,rfl⟩
  repeat'(first|exact ze3|refine ze2 ?_ ?_|refine ze4 ?_|exact ze5|fail)
  all_goals exact zp (by first|rfl|(rw[JR];exact(List.map_replicate ..).symm)|(rw[JR];simp[QG]))
 ·intro i hi
  have hcl:(QG (cpyL l 0 i)).length=l.length:=by rw[Qj];exact Qw _ _ hi
  have hcl2:=Qw l 0 hi
  by_cases hi':i<l.length
  ·repeat'(first|(refine zhm fun hb=>?_;try exact zab)|refine zUtp ?_|refine zg2 ?_ ?_|intro _|fail)
   refine⟨i+1,by omega,by omega,?_⟩
   refine⟨rfl,?_,?_,rfl⟩
   repeat'(first|exact ze3|refine ze2 ?_ ?_|refine ze4 ?_|exact ze5|fail)
   all_goals exact zp (by first|rfl|exact Yl (f:=(fun(b:UInt8)=>([.n .u8 (b.toNat:Int)]:List D))) hi')
  ·obtain rfl:i=l.length:=by omega
   repeat'(first|(refine zhm fun hb=>?_;try exact zab)|refine zUtp ?_|refine zg2 ?_ ?_|intro _|fail)
   refine zr [7] ?_ ?_
   repeat'(first|exact ze3|refine ze2 ?_ ?_|refine ze4 ?_|exact ze5|fail)
   all_goals exact zp (by first|rfl|rw[Ym])
theorem QiX{j:QV}(h:j.bytes.length<=1048576):zAc 56 [jnA j] [jnR j] (jnO j):=by
 refine zAC func56 fun w0 Z=>?_
 repeat'(first|(refine zhm fun hb=>?_;try exact zab)|refine zUto ?_|refine zg2 ?_ ?_|refine kc (Zu (l:=j.bytes) h) rfl rfl ?_|intro _|fail)
 refine zr [6] ?_ ?_
 repeat'(first|exact ze3|refine ze2 ?_ ?_|refine ze4 ?_|exact ze5|fail)
 all_goals exact zp rfl
theorem Qf8{c:Ctl}(h:JI 1048576 c):zAc 13 [ctlA c] [Qtd c] (Qvc c):=by
 refine zAC func13 fun w0 Z=>?_
 repeat'(first|(refine zhm fun hb=>?_;try exact zab)|refine zUto ?_|refine zg2 ?_ ?_|refine kc (VM (s:=c.first) h.first) rfl rfl ?_|refine kc (VM (s:=c.state) h.state) rfl rfl ?_|refine kc (QiX (j:=c.jn) h.jn) rfl rfl ?_|intro _|fail)
 refine zr [6,1006,2006,3006,4006,5006,10,1010,2010,3010,4010,5010,14] ?_ ?_
 repeat'(first|exact ze3|refine ze2 ?_ ?_|refine ze4 ?_|exact ze5|fail)
 all_goals exact zp rfl
def gB(k j:Nat):UInt8:=UInt8.ofNat (k+j)
theorem Za{b:List UInt8}{k:Nat}(h:b.length<=1000000000)(hk:k<=100000000000000):MCalls Tryz.prog 26 [.row 1000000,zI k] [(1000000,.row 5 (QG b) true)] (fun(_:Unit)=>True) (fun _=>[zI ((k+b.length:Nat):Int)]) (fun _=>[(1000000,.row 5 (QG (JM (gB k) b.length)) true)]) (fun _=>[]):=by
 refine Ji tt func26 rfl rfl rfl ⟨.inl rfl,trivial⟩ (fun _ _=>⟨⟨⟨rfl,rfl,QeF (QF _ _).symm⟩,trivial⟩,.inl rfl,trivial⟩) (fun w0 Z O=>?_)
 repeat'(first|(refine zhm fun hb=>?_;try exact zab)|refine zUtp ?_|refine zg2 ?_ ?_|intro _|fail)
 refine Qa (fun(i:Nat)=>⟨20,[(0,.row 1000000),(1,zI ((k+i:Nat):Int)),(5,zI i)],[(1000000,.row 5 (QG (mkL (gB k) b i)) true)]⟩) (fun i=>i<=b.length) (fun i=>b.length-i) 0 (by omega) ?_ ?_
 ·refine⟨rfl,?_,?_,rfl⟩
  repeat'(first|exact ze3|refine ze2 ?_ ?_|refine ze4 ?_|exact ze5|fail)
  all_goals exact zp (by first|rfl)
 ·intro i hi
  have hl:=JU (gB k) b hi
  repeat'(first|(refine zhm fun hb=>?_;try exact zab)|refine zUtp ?_|refine zg2 ?_ ?_|intro _|fail)
  ·refine⟨i+1,by omega,by omega,?_⟩
   refine⟨rfl,?_,?_,rfl⟩
   repeat'(first|exact ze3|refine ze2 ?_ ?_|refine ze4 ?_|exact ze5|fail)
   all_goals exact zp (by first|rfl|exact Qta (f:=fun(b:UInt8)=>[D.n .u8 (b.toNat:Int)]) (by omega))
  ·obtain rfl:i=b.length:=by omega
   refine zp ?_
   refine YC () [] (by exact trivial) rfl ?_ ?_ ?_
   repeat'(first|exact ze3|refine ze2 ?_ ?_|refine ze4 ?_|exact ze5|fail)
   all_goals exact zp (by first|rfl|rw[Qbx])
theorem XU{n k:Nat}(h:n<=1000000000)(hk:k<=100000000000000):zAc 27 [zL (QG (JM (gB k) n)),zI k] [zI ((k+n:Nat):Int)] []:=by
 refine zAC func27 fun w0 Z=>?_
 have hl:=QF (gB k) n
 repeat'(first|(refine zhm fun hb=>?_;try exact zab)|refine zUtp ?_|refine zg2 ?_ ?_|intro _|fail)
 refine Qa (fun(i:Nat)=>⟨22,[(0,zL (QG (JM (gB k) n))),(1,zI ((k+i:Nat):Int)),(5,zI i)],[]⟩) (fun i=>i<=n) (fun i=>n-i) 0 (by omega) ?_ ?_
 ·refine⟨rfl,?_,?_,rfl⟩
  repeat'(first|exact ze3|refine ze2 ?_ ?_|refine ze4 ?_|exact ze5|fail)
  all_goals exact zp rfl
 ·intro i hi
  repeat'(first|(refine zhm fun hb=>?_;try exact zab)|refine zUtp ?_|refine zg2 ?_ ?_|intro _|fail)
  ·exact absurd (by rw[VF (by omega)];rfl) hb
  ·refine⟨i+1,by omega,by omega,?_⟩
   refine⟨rfl,?_,?_,rfl⟩
   repeat'(first|exact ze3|refine ze2 ?_ ?_|refine ze4 ?_|exact ze5|fail)
   all_goals exact zp rfl
  ·obtain rfl:i=n:=by omega
   refine zr [] ?_ ?_
   repeat'(first|exact ze3|refine ze2 ?_ ?_|refine ze4 ?_|exact ze5|fail)
   all_goals exact zp rfl
theorem lnY{k:Nat}{l:List UInt8}:(QG l).map List.length=(QG (JM (gB k) l.length)).map List.length:=(QeF (QF _ _)).symm
def kCt(k:Nat)(c:Ctl):Nat:=kSt (kSt k c.first) c.state+c.jn.bytes.length
def mCt(k:Nat)(c:Ctl):Ctl:=⟨mSt k c.first,mSt (kSt k c.first) c.state,⟨JM (gB (kSt (kSt k c.first) c.state)) c.jn.bytes.length,c.jn.synced,c.jn.count⟩⟩
@[reducible] def QtV (c:Ctl):List (Nat×AO):=[(1000000,.row 3 (intE c.first.topo.parents) true),(1000001,.row 225 (Qz c.first.topo.nodes) true),(1000002,.row 4 (Qq c.first.up) true),(1000003,.row 72 (jobE c.first.queue) true),(1000004,.row 170 (runE c.first.runs) true),(1000005,.row 172 (endE c.first.ends) true),(1000006,.row 3 (intE c.state.topo.parents) true),(1000007,.row 225 (Qz c.state.topo.nodes) true),(1000008,.row 4 (Qq c.state.up) true),(1000009,.row 72 (jobE c.state.queue) true),(1000010,.row 170 (runE c.state.runs) true),(1000011,.row 172 (endE c.state.ends) true),(1000012,.row 5 (QG (c).jn.bytes) true)]
theorem Qga{j:QV}{k:Nat}(h:j.bytes.length<=1000000000)(hk:k<=100000000000000):MCalls Tryz.prog 75 [.agg [.row 1000000,zI j.synced,zI j.count],zI k] [(1000000,.row 5 (QG j.bytes) true)] (fun(_:Unit)=>True) (fun _=>[zI ((k+j.bytes.length:Nat):Int)]) (fun _=>[(1000000,.row 5 (QG (JM (gB k) j.bytes.length)) true)]) (fun _=>[]):=by
 refine Ji tt func75 rfl rfl rfl ⟨.inl rfl,trivial⟩ (fun _ _=>⟨⟨⟨rfl,rfl,lnY⟩,trivial⟩,.inl rfl,trivial⟩) (fun w0 Z O=>?_)
 repeat'(first|(refine zhm fun hb=>?_;try exact zab)|refine zUto ?_|refine zg2 ?_ ?_|(refine km [1000000] (Za (b:=j.bytes) (k:=k) h hk) rfl rfl (fun i hi=>?_);try dsimp only at hi)|intro _|fail)
 refine zp ?_
 refine YC () [] (by exact trivial) rfl ?_ ?_ ?_
 all_goals exact zae
theorem Qfx{s c:Int}{n k:Nat}(h:n<=1000000000)(hk:k<=100000000000000):zAc 102 [jnA ⟨JM (gB k) n,s,c⟩,zI k] [zI ((k+n:Nat):Int)] []:=by
 refine zAC func102 fun w0 Z=>?_
 repeat'(first|(refine zhm fun hb=>?_;try exact zab)|refine zUto ?_|refine zg2 ?_ ?_|refine kc (XU h hk) rfl rfl ?_|intro _|fail)
 refine zr [] ?_ ?_
 repeat'(first|exact ze3|refine ze2 ?_ ?_|refine ze4 ?_|exact ze5|fail)
 all_goals exact zp rfl
theorem Qc3{c:Ctl}{k:Nat}(h:JI 1048576 c)(hk:k<=10000000000000):MCalls Tryz.prog 25 [.agg (stC c.first 1000000 1000001 1000002 1000003 1000004 1000005++(stC c.state 1000006 1000007 1000008 1000009 1000010 1000011++[.row 1000012,zI c.jn.synced,zI c.jn.count])),zI k] (QtV c) (fun(_:Unit)=>True) (fun _=>[zI ((kCt k c:Nat):Int)]) (fun _=>QtV (mCt k c)) (fun _=>[]):=by
 refine Ji tt func25 rfl rfl rfl ⟨.inl rfl,.inl rfl,.inl rfl,.inl rfl,.inl rfl,.inl rfl,.inl rfl,.inl rfl,.inl rfl,.inl rfl,.inl rfl,.inl rfl,.inl rfl,trivial⟩ (fun _ _=>⟨⟨⟨rfl,rfl,lnI⟩,⟨rfl,rfl,lnN⟩,⟨rfl,rfl,lnB⟩,⟨rfl,rfl,lnJ⟩,⟨rfl,rfl,lnR⟩,⟨rfl,rfl,lnE⟩,⟨rfl,rfl,lnI⟩,⟨rfl,rfl,lnN⟩,⟨rfl,rfl,lnB⟩,⟨rfl,rfl,lnJ⟩,⟨rfl,rfl,lnR⟩,⟨rfl,rfl,lnE⟩,⟨rfl,rfl,lnY⟩,trivial⟩,.inl rfl,.inl rfl,.inl rfl,.inl rfl,.inl rfl,.inl rfl,.inl rfl,.inl rfl,.inl rfl,.inl rfl,.inl rfl,.inl rfl,.inl rfl,trivial⟩) (fun w0 Z O=>?_)
 have hb:=QbV h.first (k:=k) (by omega)
 have hb2:=QbV h.state (k:=kSt k c.first) (by omega)
 have hj:=h.jn
 repeat'(first|(refine zhm fun hb=>?_;try exact zab)|refine zUto ?_|refine zg2 ?_ ?_|(refine km [1000000,1000001,1000002,1000003,1000004,1000005] (V1 (k:=k) h.first (by omega)) rfl rfl (fun i hi=>?_);try dsimp only at hi)|(refine km [1000006,1000007,1000008,1000009,1000010,1000011] (V1 (k:=kSt k c.first) h.state (by omega)) rfl rfl (fun i hi=>?_);try dsimp only at hi)|(refine km [1000012] (Qga (j:=c.jn) (k:=kSt (kSt k c.first) c.state) (by omega) (by omega)) rfl rfl (fun i hi=>?_);try dsimp only at hi)|intro _|fail)
 refine zp ?_
 refine YC () [] (by exact trivial) rfl ?_ ?_ ?_
 all_goals exact zae
theorem QaN{c:Ctl}{k:Nat}(h:JI 1048576 c)(hk:k<=10000000000000):zAc 35 [ctlA (mCt k c),zI k] [zI ((kCt k c:Nat):Int)] []:=by
 refine zAC func35 fun w0 Z=>?_
 have hb:=QbV h.first (k:=k) (by omega)
 have hb2:=QbV h.state (k:=kSt k c.first) (by omega)
 have hj:=h.jn
 repeat'(first|(refine zhm fun hb=>?_;try exact zab)|refine zUto ?_|refine zg2 ?_ ?_|refine kc (Qd1 (k:=k) h.first (by omega)) rfl rfl ?_|refine kc (Qd1 (k:=kSt k c.first) h.state (by omega)) rfl rfl ?_|refine kc (Qfx (n:=c.jn.bytes.length) (k:=kSt (kSt k c.first) c.state) (by omega) (by omega)) rfl rfl ?_|intro _|fail)
 refine zr [] ?_ ?_
 repeat'(first|exact ze3|refine ze2 ?_ ?_|refine ze4 ?_|exact ze5|fail)
 all_goals exact zp rfl
end
section
attribute [local irreducible] AWp QJ OpOk ACalls ChA QsOk MCalls NCalls EnC PY

structure Qpz (w:Wld):Prop where
 first:Ql 1048576 w.first
 ctl:JI 1048576 w.ctl
 bytes:w.bytes.length<=1048576
theorem Zm.v{w:Wld}(h:Zm 1048576 w):Qpz w:=⟨h.first,h.ctl,h.bytes⟩
noncomputable def Qb8 (w:Wld):Bool:=WP w.first&&(match w.up with
 | true=>Vc w.ctl&&(X2 w.ctl.first w.first&&decide (w.bytes.length=0))
 | false=>QbM w.ctl&&decide ((VP w.first w.bytes).2=0))
theorem beqN(n:Nat):((n:Int)==0)=decide (n=0):=by
 by_cases h:n=0 <;> simp[h]
theorem Qm6{w:Wld}(hs:Qpz w):zAc 19 [wldA w] [.d (.b (Qb8 w))] []:=by
 refine zAC func19 fun w0 Z=>?_
 obtain⟨up,first,ctl,bytes,codes⟩:=w
 have hf:Ql 100000000 first:=hs.first.mono (by omega)
 have hbe:=Qj bytes
 have hbl:bytes.length<=1048576:=hs.bytes
 unfold Qb8
 dsimp only
 cases h1:WP first with
 | false=>
  have c1:=Qfj hf (pB_f.1 h1)
  repeat'(first|(refine zhm fun hb=>?_;try exact zab)|refine Qe ?_|(apply zch;exact zcg)|exact zhk|refine zg3 ?_ ?_|intro _|fail)
  refine zr [] ?_ ?_
  repeat'(first|exact ze3|refine ze2 ?_ ?_|refine ze4 ?_|exact ze5|fail)
  all_goals exact zp rfl
 | true=>
  have c1:=dc_a (Qcn hf (pB_t.1 h1))
  cases up with
  | true=>
   have c2:=QiO hs.ctl
   have c3:=QdW (a:=ctl.first) (b:=first) (hs.ctl.first.mono (by omega)) hf
   cases h2:Vc ctl with
   | false=>
    rw[h2]at c2
    repeat'(first|(refine zhm fun hb=>?_;try exact zab)|refine Qe ?_|(apply zch;exact zcg)|exact zhk|refine zg3 ?_ ?_|refine kmu c1 ?_|intro _|fail)
    refine zr [] ?_ ?_
    repeat'(first|exact ze3|refine ze2 ?_ ?_|refine ze4 ?_|exact ze5|fail)
    all_goals exact zp rfl
   | true=>
    rw[h2]at c2
    cases h3:X2 ctl.first first with
    | false=>
     rw[h3]at c3
     repeat'(first|(refine zhm fun hb=>?_;try exact zab)|refine Qe ?_|(apply zch;exact zcg)|exact zhk|refine zg3 ?_ ?_|refine kmu c1 ?_|intro _|fail)
     refine zr [] ?_ ?_
     repeat'(first|exact ze3|refine ze2 ?_ ?_|refine ze4 ?_|exact ze5|fail)
     all_goals exact zp rfl
    | true=>
     rw[h3]at c3
     repeat'(first|(refine zhm fun hb=>?_;try exact zab)|refine Qe ?_|(apply zch;exact zcg)|exact zhk|refine zg3 ?_ ?_|refine kmu c1 ?_|intro _|fail)
     all_goals
      refine zr [] ?_ ?_
      repeat'(first|exact ze3|refine ze2 ?_ ?_|refine ze4 ?_|exact ze5|fail)
      all_goals first|exact zp rfl|exact zp (beqN _)
  | false=>
   have c5:=QoA (s:=first) (b:=bytes) hs.first hbl
   have c6:=QoT hs.ctl
   generalize hF:VP first bytes=F at c5 ⊢
   obtain⟨o,k⟩:=F
   cases o with
   | none=>
    dsimp only[coR,coB]at c5
    cases hn:QbM ctl with
    | false=>
     rw[hn]at c6
     repeat'(first|(refine zhm fun hb=>?_;try exact zab)|refine Qe ?_|(apply zch;exact zcg)|exact zhk|refine zg3 ?_ ?_|refine kmu c1 ?_|intro _|fail)
     refine zr [] ?_ ?_
     repeat'(first|exact ze3|refine ze2 ?_ ?_|refine ze4 ?_|exact ze5|fail)
     all_goals exact zp rfl
    | true=>
     rw[hn]at c6
     repeat'(first|(refine zhm fun hb=>?_;try exact zab)|refine Qe ?_|(apply zch;exact zcg)|exact zhk|refine zg3 ?_ ?_|refine kmu c1 ?_|intro _|fail)
     refine zr [] ?_ ?_
     repeat'(first|exact ze3|refine ze2 ?_ ?_|refine ze4 ?_|exact ze5|fail)
     all_goals first|exact zp rfl
   | some x=>
    have c5:=dc_a c5
    dsimp only[coR,coB]at c5
    cases hn:QbM ctl with
    | false=>
     rw[hn]at c6
     repeat'(first|(refine zhm fun hb=>?_;try exact zab)|refine Qe ?_|(apply zch;exact zcg)|exact zhk|refine zg3 ?_ ?_|refine kmu c1 ?_|refine kmu c5 ?_|intro _|fail)
     refine zr [] ?_ ?_
     repeat'(first|exact ze3|refine ze2 ?_ ?_|refine ze4 ?_|exact ze5|fail)
     all_goals exact zp rfl
    | true=>
     rw[hn]at c6
     repeat'(first|(refine zhm fun hb=>?_;try exact zab)|refine Qe ?_|(apply zch;exact zcg)|exact zhk|refine zg3 ?_ ?_|refine kmu c1 ?_|refine kmu c5 ?_|intro _|fail)
     refine zr [] ?_ ?_
     repeat'(first|exact ze3|refine ze2 ?_ ?_|refine ze4 ?_|exact ze5|fail)
     all_goals first|exact zp rfl
theorem Qnv{w:Wld}(hs:Qpz w):zAc 17 [wldA w] [.d (.b (Qb8 w))] []:=by
 refine zAC func17 fun w0 Z=>?_
 obtain⟨up,first,ctl,bytes,codes⟩:=w
 have hf:Ql 100000000 first:=hs.first.mono (by omega)
 have hbe:=Qj bytes
 have hbl:bytes.length<=1048576:=hs.bytes
 unfold Qb8
 dsimp only
 cases h1:WP first with
 | false=>
  have c1:=Xt hf
  rw[h1]at c1
  repeat'(first|(refine zhm fun hb=>?_;try exact zab)|refine Qe ?_|(apply zch;exact zcg)|exact zhk|refine zg3 ?_ ?_|intro _|fail)
  refine zr [] ?_ ?_
  repeat'(first|exact ze3|refine ze2 ?_ ?_|refine ze4 ?_|exact ze5|fail)
  all_goals exact zp rfl
 | true=>
  have c1:=Xt hf
  rw[h1]at c1
  cases up with
  | true=>
   have c2:=Qi1 hs.ctl
   have c3:=QcF (a:=ctl.first) (b:=first) (hs.ctl.first.mono (by omega)) hf
   cases h2:Vc ctl with
   | false=>
    rw[h2]at c2
    repeat'(first|(refine zhm fun hb=>?_;try exact zab)|refine Qe ?_|(apply zch;exact zcg)|exact zhk|refine zg3 ?_ ?_|intro _|fail)
    refine zr [] ?_ ?_
    repeat'(first|exact ze3|refine ze2 ?_ ?_|refine ze4 ?_|exact ze5|fail)
    all_goals exact zp rfl
   | true=>
    rw[h2]at c2
    cases h3:X2 ctl.first first with
    | false=>
     rw[h3]at c3
     repeat'(first|(refine zhm fun hb=>?_;try exact zab)|refine Qe ?_|(apply zch;exact zcg)|exact zhk|refine zg3 ?_ ?_|intro _|fail)
     refine zr [] ?_ ?_
     repeat'(first|exact ze3|refine ze2 ?_ ?_|refine ze4 ?_|exact ze5|fail)
     all_goals exact zp rfl
    | true=>
     rw[h3]at c3
     repeat'(first|(refine zhm fun hb=>?_;try exact zab)|refine Qe ?_|(apply zch;exact zcg)|exact zhk|refine zg3 ?_ ?_|intro _|fail)
     all_goals
      refine zr [] ?_ ?_
      repeat'(first|exact ze3|refine ze2 ?_ ?_|refine ze4 ?_|exact ze5|fail)
      all_goals first|exact zp rfl|exact zp (beqN _)
  | false=>
   have c5:=Qos (s:=first) (b:=bytes) hs.first hbl
   have c6:=Qsl hs.ctl
   generalize hF:VP first bytes=F at c5 ⊢
   obtain⟨o,k⟩:=F
   dsimp only at c5
   cases hn:QbM ctl with
   | false=>
    rw[hn]at c6
    repeat'(first|(refine zhm fun hb=>?_;try exact zab)|refine Qe ?_|(apply zch;exact zcg)|exact zhk|refine zg3 ?_ ?_|refine kmu c5 ?_|intro _|fail)
    refine zr [] ?_ ?_
    repeat'(first|exact ze3|refine ze2 ?_ ?_|refine ze4 ?_|exact ze5|fail)
    all_goals exact zp rfl
   | true=>
    rw[hn]at c6
    repeat'(first|(refine zhm fun hb=>?_;try exact zab)|refine Qe ?_|(apply zch;exact zcg)|exact zhk|refine zg3 ?_ ?_|refine kmu c5 ?_|intro _|fail)
    refine zr [] ?_ ?_
    repeat'(first|exact ze3|refine ze2 ?_ ?_|refine ze4 ?_|exact ze5|fail)
    all_goals first|exact zp rfl

theorem QgK{s:Qd}{b:List UInt8}(hs:Ql 1048576 s)(hb:b.length<=1048576):∀c,(VP s b).1=some c->JI 1048576 c:=fun c h=>by
 unfold VP at h
 split at h
 ·split at h
  ·cases h
  ·rename_i s' h1
   injection h with h
   subst h
   exact⟨hs,WK hs h1,Xao (Xcr _ _) hb⟩
 ·cases h
end
end Go.Proofs.YtihgfennoalocaaGreat
