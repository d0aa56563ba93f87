/-
  No controller; Found as data; WorldOk, both; its law, without its argument.
-/
import Derived.Test.YtkdniahincpmaaaGreatQB35
set_option maxRecDepth 100000
set_option maxHeartbeats 16000000
namespace Go.Proofs.YtkdniahincpmaaaGreat
open Go Go.RowKit Tryz
section
attribute [local irreducible] AWp QM OpOk ACalls ChA QsOk MCalls NCalls EnC PY

def noJn(j:QU):Bool:=decide (j.bytes.length=0)&&(decide (j.synced=0)&&decide (j.count=0))
noncomputable def Qak (c:Ctl):Bool:=pB (c.first=zS)&&(pB (c.state=zS)&&noJn c.jn)
theorem Qh6{n:Nat}{s c:Int}(h1:n=0)(h2:s=0):(c==0)=(decide (n=0)&&(decide (s=0)&&decide (c=0))):=by
 subst h1;subst h2
 by_cases h:c=0 <;> simp[h]
theorem Qos{n:Nat}{s c:Int}(h:n≠0\/s≠0):false=(decide (n=0)&&(decide (s=0)&&decide (c=0))):=by
 rcases h with h|h <;> simp[h]
theorem QoA{c:Ctl}(hs:J1 1048576 c):zAc 54 [ctlA c] [.d (.b (Qak c))] []:=by
 refine zAC func54 fun w0 Z=>?_
 have a:=ZL (s:=c.first) (u:=zS) (hs.first.mono (by omega))
 have e:=ZL (s:=c.state) (u:=zS) (hs.state.mono (by omega))
 have hb:=Qu c.jn.bytes
 have h:=hs.jn
 unfold Qak noJn
 cases f:pB (c.first=zS) with
 | false=>
  rw[f]at a
  repeat'(first|(refine zhm fun hb=>?_;try exact zab)|refine Qd ?_|(apply zch;exact zcg)|exact zhk|refine zg3 ?_ ?_|intro _)
  refine zr [] ?_ ?_
  repeat'(first|exact ze3|refine ze2 ?_ ?_|refine ze4 ?_|exact ze5|fail)
  all_goals exact zp rfl
 | true=>
  rw[f]at a
  cases g:pB (c.state=zS) with
  | false=>
   rw[g]at e
   repeat'(first|(refine zhm fun hb=>?_;try exact zab)|refine Qd ?_|(apply zch;exact zcg)|exact zhk|refine zg3 ?_ ?_|intro _)
   refine zr [] ?_ ?_
   repeat'(first|exact ze3|refine ze2 ?_ ?_|refine ze4 ?_|exact ze5|fail)
   all_goals exact zp rfl
  | true=>
   rw[g]at e
   repeat'(first|(refine zhm fun hb=>?_;try exact zab)|refine Qd ?_|(apply zch;exact zcg)|exact zhk|refine zg3 ?_ ?_|intro _)
   all_goals
    refine zr [] ?_ ?_
    repeat'(first|exact ze3|refine ze2 ?_ ?_|refine ze4 ?_|exact ze5|fail)
    all_goals first|exact zp rfl|exact zp (Qh6 (by omega) (by omega))|exact zp (Qos (by omega))
theorem QjY{s:Qb}(h1:s.topo.parents.length=0)(h2:s.topo.nodes.length=0)(h3:s.up.length=0)(h4:s.lic=⟨0,0,0⟩)(h5:s.depth=0)(h6:s.now=0)(h7:s.queue.length=0)(h8:s.runs.length=0)(h9:s.ends.length=0):s=zS:=by
 obtain⟨⟨p,n⟩,u,l,d,w,q,r,e⟩:=s
 simp only[Xbl]at *
 subst h1;subst h2;subst h3;subst h4;subst h5;subst h6;subst h7;subst h8;subst h9
 rfl
theorem Qjd{s:Qb}(h:Qo 1048576 s):zAc 279 [Qz s] [.d (.b (pB (s=zS)))] []:=by
 refine zAC func279 fun w0 Z=>?_
 have h1:=Qc s.topo.parents
 have h2:=Qw s.topo.nodes
 have h3:=Qq s.up
 have h4:=Qj s.queue
 have h5:=Qe s.runs
 have h6:=QJ s.ends
 have k1:=h.par
 have k2:=h.nod
 have k3:=h.up
 have k4:=h.que
 have k5:=h.run
 have k6:=h.end'
 by_cases e:s=zS
 ·subst e
  rw[pB_t.2 rfl]
  repeat'(first|(refine zhm fun hb=>?_;try exact zab)|refine Qd ?_|(apply zch;exact zcg)|exact zhk|refine zg3 ?_ ?_|intro _)
  all_goals first|exact absurd rfl (Qd1.1 (by assumption))|exact absurd rfl (by assumption)|skip
  all_goals
   refine zr [] ?_ ?_
   repeat'(first|exact ze3|refine ze2 ?_ ?_|refine ze4 ?_|exact ze5|fail)
   all_goals exact zp rfl
 ·rw[pB_f.2 e]
  repeat'(first|(refine zhm fun hb=>?_;try exact zab)|refine Qd ?_|(apply zch;exact zcg)|exact zhk|refine zg3 ?_ ?_|intro _)
  all_goals
   refine zr [] ?_ ?_
   repeat'(first|exact ze3|refine ze2 ?_ ?_|refine ze4 ?_|exact ze5|fail)
   all_goals first|exact zp rfl|exact zp (decide_eq_false fun hE=>e (QjY (by omega) (by omega) (by omega) (Qfr.1 (by assumption)) (by omega) (by omega) (by omega) (by omega) (by omega))).symm|exact zp (beq_eq_false_iff_ne.2 fun hE=>e (QjY (by omega) (by omega) (by omega) (Qfr.1 (by assumption)) (by omega) (by omega) (by omega) (by omega) (by omega)))|exact zp (beq_eq_false_iff_ne.2 fun hE=>e (QjY (by omega) (by omega) (by omega) (Qfr.1 (by assumption)) (by omega) (by omega) (by omega) (by omega) (by omega))).symm
theorem QvY{c:Ctl}(hs:J1 1048576 c):zAc 218 [ctlA c] [.d (.b (Qak c))] []:=by
 refine zAC func218 fun w0 Z=>?_
 have a:=Qjd hs.first
 have e:=Qjd hs.state
 have hb:=Qu c.jn.bytes
 have h:=hs.jn
 unfold Qak noJn
 cases f:pB (c.first=zS) with
 | false=>
  rw[f]at a
  repeat'(first|(refine zhm fun hb=>?_;try exact zab)|refine Qd ?_|(apply zch;exact zcg)|exact zhk|refine zg3 ?_ ?_|intro _)
  refine zr [] ?_ ?_
  repeat'(first|exact ze3|refine ze2 ?_ ?_|refine ze4 ?_|exact ze5|fail)
  all_goals exact zp rfl
 | true=>
  rw[f]at a
  cases g:pB (c.state=zS) with
  | false=>
   rw[g]at e
   repeat'(first|(refine zhm fun hb=>?_;try exact zab)|refine Qd ?_|(apply zch;exact zcg)|exact zhk|refine zg3 ?_ ?_|intro _)
   refine zr [] ?_ ?_
   repeat'(first|exact ze3|refine ze2 ?_ ?_|refine ze4 ?_|exact ze5|fail)
   all_goals exact zp rfl
  | true=>
   rw[g]at e
   repeat'(first|(refine zhm fun hb=>?_;try exact zab)|refine Qd ?_|(apply zch;exact zcg)|exact zhk|refine zg3 ?_ ?_|intro _)
   all_goals
    refine zr [] ?_ ?_
    repeat'(first|exact ze3|refine ze2 ?_ ?_|refine ze4 ?_|exact ze5|fail)
    all_goals first|exact zp rfl|exact zp (Qh6 (by omega) (by omega))|exact zp (Qos (by omega))

inductive RpK
 | fst
 | nxt (s:Qb) (i:Nat)
@[reducible] def rpS (s0:Qb) (l:List (List UInt8)):RpK->AS
 | .fst=>⟨38,[(2,.ptr 2 0),(4,.ptr 4 0),(12,zL (strE l)),(13,zI (l.length:Nat)),(14,zI 0)],[(2,.box 34 (JI s0)),(4,.box 34 ctl0)]⟩
 | .nxt s i=>⟨38,[(2,.ptr 2 0),(4,.ptr 4 0),(12,zL (strE l)),(13,zI (l.length:Nat)),(14,zI i)],[(2,.box 34 (stC s 29 1029 2029 3029 4029 5029)),(4,.box 34 ctl0),(29,.row 3 (intE s.topo.parents) true),(1029,.row 62 (Qr s.topo.nodes) true),(2029,.row 4 (Qk s.up) true),(3029,.row 40 (jobE s.queue) true),(4029,.row 66 (runE s.runs) true),(5029,.row 123 (endE s.ends) true)]⟩
def rpP(l:List (List UInt8))(R:Option Qb):RpK->Prop
 | .fst=>True
 | .nxt s i=>i<=l.length/\Qo 1048576 s/\repO s (l.drop i)=R
def rpM(l:List (List UInt8)):RpK->Nat
 | .fst=>l.length+1
 | .nxt _ i=>l.length-i
theorem Qn4{s:Qb}{l:List (List UInt8)}(hs:Qo 1048576 s)(h0:0<l.length)(hl:l.length<=1000000000)(hr:∀r∈l,r.length<=1000000000):zAc 45 [Qz s,zL (strE l)] (unR (repO s l)) (stB (repO s l)):=by
 refine zAC func45 fun w0 Z=>?_
 have q:=YP l
 have h:repO s (l.drop 0)=repO s l:=by rw[XbO]
 generalize repO s l=R at h ⊢
 repeat'(first|(refine zhm fun hb=>?_;try exact zab)|refine Qd ?_|(apply zch;exact zcg)|exact zhk|refine zg3 ?_ ?_|intro _)
 refine Qa (rpS s l) (rpP l R) (rpM l) .fst trivial ?_ ?_
 ·refine⟨rfl,?_,?_,rfl⟩
  repeat'(first|exact ze3|refine ze2 ?_ ?_|refine ze4 ?_|exact ze5|fail)
  all_goals exact zp (by first|rfl|exact YP _)
 rintro (_|⟨t,n⟩) p
 ·have i:=Qe0 (s:=nth l 0) (hr _ (QE h0))
  generalize ht:JX (nth l 0)=tc at i
  obtain⟨c,m⟩:=tc
  dsimp only at i
  dsimp only[rpS]
  cases m with
  | false=>
   rw[QdH h0 (by rw[ht])]at h
   subst h
   repeat'(first|(refine zhm fun hb=>?_;try exact zab)|refine Qd ?_|(apply zch;exact zcg)|exact zhk|refine zg3 ?_ ?_|intro _)
   all_goals
    refine zr [] ?_ ?_
    repeat'(first|exact ze3|refine ze2 ?_ ?_|refine ze4 ?_|exact ze5|fail)
    all_goals exact zp rfl
  | true=>
   have e:=Wm (c:=c) hs
   have f:=Qee (c:=c) hs
   rcases YK (s:=s) (c:=c)with ⟨s2,h2⟩|⟨k,h2,hk2⟩
   ·rw[h2]at f e
    dsimp only[SO,stR,stB]at f
    rw[Qbz h0 ht (by rw[h2])]at h
    repeat'(first|(refine zhm fun hb=>?_;try exact zab)|refine Qd ?_|(apply zch;exact zcg)|exact zhk|refine zg3 ?_ ?_|intro _)
    all_goals
     refine⟨.nxt s2 1,⟨by omega,e s2 rfl,h⟩,by dsimp only[rpM];omega,?_⟩
     refine⟨rfl,?_,?_,rfl⟩
     repeat'(first|exact ze3|refine ze2 ?_ ?_|refine ze4 ?_|exact ze5|fail)
     all_goals exact zp rfl
   ·rw[h2]at f
    dsimp only[SO,stR,stB]at f
    rw[Qbm h0 ht (by rw[h2])]at h
    subst h
    repeat'(first|(refine zhm fun hb=>?_;try exact zab)|refine Qd ?_|(apply zch;exact zcg)|exact zhk|refine zg3 ?_ ?_|intro _)
    all_goals
     refine zr [] ?_ ?_
     repeat'(first|exact ze3|refine ze2 ?_ ?_|refine ze4 ?_|exact ze5|fail)
     all_goals exact zp rfl
 ·obtain⟨o,j,d⟩:=p
  dsimp only[rpS]
  refine Yh 29 39 rfl ?_
  refine Yh 1029 1039 rfl ?_
  refine Yh 2029 2039 rfl ?_
  refine Yh 3029 3039 rfl ?_
  refine Yh 4029 4039 rfl ?_
  refine Yh 5029 5039 rfl ?_
  by_cases g:n<l.length
  ·have i:=Qe0 (s:=nth l n) (hr _ (QE g))
   generalize ht:JX (nth l n)=tc at i
   obtain⟨c,m⟩:=tc
   dsimp only at i
   cases m with
   | false=>
    rw[QdH g (by rw[ht])]at d
    subst d
    repeat'(first|(refine zhm fun hb=>?_;try exact zab)|refine Qd ?_|(apply zch;exact zcg)|exact zhk|refine zg3 ?_ ?_|intro _)
    all_goals
     refine zr [] ?_ ?_
     repeat'(first|exact ze3|refine ze2 ?_ ?_|refine ze4 ?_|exact ze5|fail)
     all_goals exact zp rfl
   | true=>
    have e:=Wm (c:=c) j
    have f:=Qee (c:=c) j
    rcases YK (s:=t) (c:=c)with ⟨s2,h2⟩|⟨k,h2,hk2⟩
    ·rw[h2]at f e
     dsimp only[SO,stR,stB]at f
     rw[Qbz g ht (by rw[h2])]at d
     repeat'(first|(refine zhm fun hb=>?_;try exact zab)|refine Qd ?_|(apply zch;exact zcg)|exact zhk|refine zg3 ?_ ?_|intro _)
     all_goals
      refine⟨.nxt s2 (n+1),⟨by omega,e s2 rfl,d⟩,by dsimp only[rpM];omega,?_⟩
      refine⟨rfl,?_,?_,rfl⟩
      repeat'(first|exact ze3|refine ze2 ?_ ?_|refine ze4 ?_|exact ze5|fail)
      all_goals exact zp rfl
    ·rw[h2]at f
     dsimp only[SO,stR,stB]at f
     rw[Qbm g ht (by rw[h2])]at d
     subst d
     repeat'(first|(refine zhm fun hb=>?_;try exact zab)|refine Qd ?_|(apply zch;exact zcg)|exact zhk|refine zg3 ?_ ?_|intro _)
     all_goals
      refine zr [] ?_ ?_
      repeat'(first|exact ze3|refine ze2 ?_ ?_|refine ze4 ?_|exact ze5|fail)
      all_goals exact zp rfl
  ·obtain rfl:n=l.length:=by omega
   rw[XcM]at d
   subst d
   repeat'(first|(refine zhm fun hb=>?_;try exact zab)|refine Qd ?_|(apply zch;exact zcg)|exact zhk|refine zg3 ?_ ?_|intro _)
   refine zr [39,1039,2039,3039,4039,5039] ?_ ?_
   repeat'(first|exact ze3|refine ze2 ?_ ?_|refine ze4 ?_|exact ze5|fail)
   all_goals exact zp rfl
@[reducible] def stMM (s:Qb):List (Nat×AO):=[(1000000,.row 3 (intE s.topo.parents) true),(1000001,.row 62 (Qr s.topo.nodes) true),(1000002,.row 4 (Qk s.up) true),(1000003,.row 40 (jobE s.queue) true),(1000004,.row 66 (runE s.runs) true),(1000005,.row 123 (endE s.ends) true)]
@[reducible] def Qw9 (s:Qb) (q0 q1 q2 q3 q4 q5:Nat):List AV:=[.sub q0 0 (intE s.topo.parents).length,.sub q1 0 (Qr s.topo.nodes).length,.sub q2 0 (Qk s.up).length,zI s.lic.a,zI s.lic.b,zI s.lic.c,zI s.depth,zI s.now,.sub q3 0 (jobE s.queue).length,.sub q4 0 (runE s.runs).length,.sub q5 0 (endE s.ends).length]
@[reducible] def QxF (s:Qb):AV:=.agg [zL (((intE s.topo.parents).take (intE s.topo.parents).length).drop 0),zL (((Qr s.topo.nodes).take (Qr s.topo.nodes).length).drop 0),zL (((Qk s.up).take (Qk s.up).length).drop 0),zI s.lic.a,zI s.lic.b,zI s.lic.c,zI s.depth,zI s.now,zL (((jobE s.queue).take (jobE s.queue).length).drop 0),zL (((runE s.runs).take (runE s.runs).length).drop 0),zL (((endE s.ends).take (endE s.ends).length).drop 0)]
theorem Qkm{s:Qb}(hs:Qo 100000000 s):zAc 46 [QxF s] [Xo s 0 1 2 3 4 5] (QcO s):=by
 have e:∀es:List (List D),(es.take es.length).drop 0=es:=fun es=>by rw[Xal,XbO]
 unfold QxF
 simp only[e]
 exact Q4 hs
theorem QnP{s:Qb}:MCalls Tryz.prog 45 [Xo s 1000000 1000001 1000002 1000003 1000004 1000005,zL (strE [])] (stMM s) (fun _:Unit=>True) (fun _=>[.agg (Qw9 s 1000000 1000001 1000002 1000003 1000004 1000005),.d (.b true)]) (fun _=>stMM s) (fun _=>[]):=by
 refine Jb tt func45 rfl rfl rfl ⟨.inl rfl,.inl rfl,.inl rfl,.inl rfl,.inl rfl,.inl rfl,trivial⟩ (fun _ _=>⟨⟨⟨rfl,rfl,rfl⟩,⟨rfl,rfl,rfl⟩,⟨rfl,rfl,rfl⟩,⟨rfl,rfl,rfl⟩,⟨rfl,rfl,rfl⟩,⟨rfl,rfl,rfl⟩,trivial⟩,.inl rfl,.inl rfl,.inl rfl,.inl rfl,.inl rfl,.inl rfl,trivial⟩) (fun w0 Z O=>?_)
 refine QbT 0 1000000 rfl ?_
 refine QbT 0 1000001 rfl ?_
 refine QbT 0 1000002 rfl ?_
 refine QbT 0 1000003 rfl ?_
 refine QbT 0 1000004 rfl ?_
 refine QbT 0 1000005 rfl ?_
 repeat'(first|(refine zhm fun hb=>?_;try exact zab)|refine Qd ?_|(apply zch;exact zcg)|exact zhk|refine zg3 ?_ ?_|intro _)
 refine Qa (fun(_:Unit)=>⟨38,[(2,.ptr 2 0),(4,.ptr 4 0),(12,zL []),(13,zI 0),(14,zI 0)],[(2,.box 34 (Qw9 s 1000000 1000001 1000002 1000003 1000004 1000005)),(4,.box 34 ctl0),(1000000,.row 3 (intE s.topo.parents) true),(1000001,.row 62 (Qr s.topo.nodes) true),(1000002,.row 4 (Qk s.up) true),(1000003,.row 40 (jobE s.queue) true),(1000004,.row 66 (runE s.runs) true),(1000005,.row 123 (endE s.ends) true)]⟩) (fun _=>True) (fun _=>0) () trivial ?_ ?_
 ·refine⟨rfl,?_,?_,rfl⟩
  repeat'(first|exact ze3|refine ze2 ?_ ?_|refine ze4 ?_|exact ze5|fail)
  all_goals exact zp rfl
 ·intro _ _
  repeat'(first|(refine zhm fun hb=>?_;try exact zab)|refine Qd ?_|(apply zch;exact zcg)|exact zhk|refine zg3 ?_ ?_|intro _)
  refine zp ?_
  refine Jk () [] (by exact trivial) rfl ?_ ?_ ?_
  all_goals exact zae
def zC:Ctl:=⟨zS,zS,⟨[],0,0⟩⟩
noncomputable def Y6 (s:Qb) (b:List UInt8):Option Ctl×Int:=
 if YN s=true/\b.length<=40000 then match ZI s b with
  | none=>(none,2)
  | some s'=>(some ⟨s,s',Vj b⟩,0)
 else(none,1)
@[reducible] def ctl00:List AV:=ctl0++(ctl0++[.nil,zI 0,zI 0])
@[reducible] def Qqq (c:Ctl):AV:=.agg (stC c.first 0 1 2 3 4 5++(stC c.state 6 7 8 9 10 11++[.row 12,zI c.jn.synced,zI c.jn.count]))
@[reducible] def Qsu (c:Ctl):List (Nat×AO):=[(0,.row 3 (intE c.first.topo.parents) true),(1,.row 62 (Qr c.first.topo.nodes) true),(2,.row 4 (Qk c.first.up) true),(3,.row 40 (jobE c.first.queue) true),(4,.row 66 (runE c.first.runs) true),(5,.row 123 (endE c.first.ends) true),(6,.row 3 (intE c.state.topo.parents) true),(7,.row 62 (Qr c.state.topo.nodes) true),(8,.row 4 (Qk c.state.up) true),(9,.row 40 (jobE c.state.queue) true),(10,.row 66 (runE c.state.runs) true),(11,.row 123 (endE c.state.ends) true),(12,.row 5 (QC c.jn.bytes) true)]
@[reducible] def coR (o:Option Ctl) (k:Int):List AV:=match o with
 | none=>[.agg ctl00,zI k]
 | some c=>[Qqq c,zI k]
@[reducible] def coB (o:Option Ctl):List (Nat×AO):=match o with
 | none=>[]
 | some c=>Qsu c
theorem QoL{s:Qb}{b:List UInt8}(hs:Qo 1048576 s)(hb:b.length<=1048576):zAc 10 [Qz s,zL (QC b)] (coR (Y6 s b).1 (Y6 s b).2) (coB (Y6 s b).1):=by
 refine zAC func10 fun w0 Z=>?_
 have f:Qo 100000000 s:=hs.mono (by omega)
 have t:=Qu b
 unfold Y6
 cases j:YN s with
 | false=>
  have g:=Qhc f (pB_f.1 j)
  rw[if_neg (fun h=>by cases h.1)]
  repeat'(first|(refine zhm fun hb=>?_;try exact zab)|refine Qd ?_|(apply zch;exact zcg)|exact zhk|refine zg3 ?_ ?_|intro _)
  refine zr [] ?_ ?_
  repeat'(first|exact ze3|refine ze2 ?_ ?_|refine ze4 ?_|exact ze5|fail)
  all_goals exact zp rfl
 | true=>
  by_cases k:b.length<=40000
  ·have g:=Qc2 f (pB_t.1 j)
   have c2:=QhK k
   obtain⟨m,o⟩:=Qhu b
   have e:=dc_a (Vk (b:=b) (by omega))
   have d:∀r∈(Ja b).1,r.length<=1000000000:=fun r hr'=>Xam (o r hr') (by omega)
   have a:=Vs (l:=(Ja b).1) (s:=s) (s':=(repO s (Ja b).1).getD zS) hs
   rw[if_pos ⟨rfl,k⟩]
   unfold ZI
   generalize (Ja b).1=l at m o e d a ⊢
   by_cases q:0<l.length
   ·have c:=Qn4 hs q (by omega) d
    cases n:repO s l with
    | none=>
     rw[n]at c
     dsimp only[unR,stB]at c
     repeat'(first|(refine zhm fun hb=>?_;try exact zab)|refine Qd ?_|(apply zch;exact zcg)|exact zhk|refine zg3 ?_ ?_|refine kmu e ?_|intro _)
     refine zr [] ?_ ?_
     repeat'(first|exact ze3|refine ze2 ?_ ?_|refine ze4 ?_|exact ze5|fail)
     all_goals exact zp rfl
    | some s'=>
     rw[n]at c a
     dsimp only[unR,stB,Option.getD]at c a
     have p:=Q4 (s:=s') ((a rfl).mono (by omega))
     repeat'(first|(refine zhm fun hb=>?_;try exact zab)|refine Qd ?_|(apply zch;exact zcg)|exact zhk|refine zg3 ?_ ?_|refine kmu e ?_|intro _)
     refine zr [14,1014,2014,3014,4014,5014,44,1044,2044,3044,4044,5044,26] ?_ ?_
     repeat'(first|exact ze3|refine ze2 ?_ ?_|refine ze4 ?_|exact ze5|fail)
     all_goals exact zp rfl
   ·obtain rfl:l=[]:=Xbl.1 (by omega)
    have c:=QnP (s:=s)
    have p:=Qkm (s:=s) f
    rw[show repO s []=some s from rfl]
    repeat'(first|(refine zhm fun hb=>?_;try exact zab)|refine Qd ?_|(apply zch;exact zcg)|exact zhk|refine zg3 ?_ ?_|refine kmu e ?_|(refine km [14,1014,2014,3014,4014,5014] (c) rfl rfl (fun i hi=>?_);try dsimp only at hi)|intro _)
    refine zr [14,1014,2014,3014,4014,5014,44,1044,2044,3044,4044,5044,26] ?_ ?_
    repeat'(first|exact ze3|refine ze2 ?_ ?_|refine ze4 ?_|exact ze5|fail)
    all_goals exact zp rfl
  ·have g:=dc_a (Qc2 f (pB_t.1 j))
   rw[if_neg (fun h=>k h.2)]
   repeat'(first|(refine zhm fun hb=>?_;try exact zab)|refine Qd ?_|(apply zch;exact zcg)|exact zhk|refine zg3 ?_ ?_|refine kmu g ?_|intro _)
   refine zr [] ?_ ?_
   repeat'(first|exact ze3|refine ze2 ?_ ?_|refine ze4 ?_|exact ze5|fail)
   all_goals exact zp rfl
theorem Qjs(s:Qb)(b:List UInt8):ZI s (Vj b).bytes=ZI s b:=by
 unfold ZI Vj
 rw[Qf5]
theorem Qof{s:Qb}{b:List UInt8}(hs:Qo 1048576 s)(hb:b.length<=1048576):DC Tryz.prog 129 [Qz s,zL (QC b)] [ctlA ((Y6 s b).1.getD zC),zI (Y6 s b).2]:=by
 refine zMC func129 fun w0 Z O=>?_
 have m:Qo 100000000 s:=hs.mono (by omega)
 have p:=Qu b
 have g:=X5 m
 unfold Y6
 cases i:YN s with
 | false=>
  rw[i]at g
  rw[if_neg (fun h=>by cases h.1)]
  repeat'(first|(refine zhm fun hb=>?_;try exact zab)|refine Q2 ?_|(apply zch;exact zcg)|exact zhk|refine zg3 ?_ ?_|intro _)
  exact zDR
 | true=>
  rw[i]at g
  by_cases e:b.length<=40000
  ·rw[if_pos ⟨rfl,e⟩]
   have f:=dc_a (Qgp e)
   have r:(Vj b).bytes.length<=40000:=by unfold Vj;exact Xam (Xb9 _ _) e
   have a:=Qi3 (b:=(Vj b).bytes) hs (by omega)
   have d:=Qjs s b
   unfold ZI at d
   rw[d]at a
   unfold ZI
   have c:=Vs (l:=(Ja b).1) (s:=s) (s':=(repO s (Ja b).1).getD zS) hs
   generalize Vj b=j at f a ⊢
   have q:=Qu j.bytes
   cases k:repO s (Ja b).1 with
   | none=>
    rw[k]at a
    dsimp only[Option.getD,Option.isSome]at a
    repeat'(first|(refine zhm fun hb=>?_;try exact zab)|refine Q2 ?_|(apply zch;exact zcg)|exact zhk|refine zg3 ?_ ?_|refine kmu f ?_|refine kmu a ?_|intro _)
    exact zDR
   | some s'=>
    rw[k]at a c
    dsimp only[Option.getD,Option.isSome]at a c
    have n:=Wv (s:=s) m
    have o:=Wv (s:=s') ((c rfl).mono (by omega))
    repeat'(first|(refine zhm fun hb=>?_;try exact zab)|refine Q2 ?_|(apply zch;exact zcg)|exact zhk|refine zg3 ?_ ?_|refine kmu f ?_|refine kmu a ?_|refine kmu n ?_|refine kmu o ?_|intro _)
    exact zDR
  ·rw[if_neg (fun h=>e h.2)]
   repeat'(first|(refine zhm fun hb=>?_;try exact zab)|refine Q2 ?_|(apply zch;exact zcg)|exact zhk|refine zg3 ?_ ?_|intro _)
   exact zDR
theorem Qh5{s:Qb}{b:List UInt8}(hs:Qo 1048576 s)(hb:b.length<=1048576):∀c,(Y6 s b).1=some c->J1 1048576 c:=fun c h=>by
 unfold Y6 at h
 split at h
 ·split at h
  ·cases h
  ·rename_i s' a
   injection h with h
   subst h
   exact⟨hs,Vs hs a,Xam (Xb9 _ _) hb⟩
 ·cases h

structure XN (w:Wld):Prop where
 first:Qo 1048576 w.first
 ctl:J1 1048576 w.ctl
 bytes:w.bytes.length<=1048576
theorem J6.v{w:Wld}(h:J6 1048576 w):XN w:=⟨h.first,h.ctl,h.bytes⟩
noncomputable def QK (w:Wld):Bool:=YN w.first&&(match w.up with
 | true=>Y8 w.ctl&&(Z5 w.ctl.first w.first&&decide (w.bytes.length=0))
 | false=>Qak w.ctl&&decide ((Y6 w.first w.bytes).2=0))
theorem beqN(n:Nat):((n:Int)==0)=decide (n=0):=by
 by_cases h:n=0 <;> simp[h]
theorem Qh9{w:Wld}(hs:XN w):zAc 15 [wldA w] [.d (.b (QK w))] []:=by
 refine zAC func15 fun w0 Z=>?_
 obtain⟨t,first,ctl,bytes,h⟩:=w
 have j:Qo 100000000 first:=hs.first.mono (by omega)
 have r:=Qu bytes
 have i:bytes.length<=1048576:=hs.bytes
 unfold QK
 dsimp only
 cases n:YN first with
 | false=>
  have c:=Qhc j (pB_f.1 n)
  repeat'(first|(refine zhm fun hb=>?_;try exact zab)|refine Qd ?_|(apply zch;exact zcg)|exact zhk|refine zg3 ?_ ?_|intro _)
  refine zr [] ?_ ?_
  repeat'(first|exact ze3|refine ze2 ?_ ?_|refine ze4 ?_|exact ze5|fail)
  all_goals exact zp rfl
 | true=>
  have c:=dc_a (Qc2 j (pB_t.1 n))
  cases t with
  | true=>
   have l:=QvH hs.ctl
   have m:=QdJ (a:=ctl.first) (b:=first) (hs.ctl.first.mono (by omega)) j
   cases p:Y8 ctl with
   | false=>
    rw[p]at l
    repeat'(first|(refine zhm fun hb=>?_;try exact zab)|refine Qd ?_|(apply zch;exact zcg)|exact zhk|refine zg3 ?_ ?_|refine kmu c ?_|intro _)
    refine zr [] ?_ ?_
    repeat'(first|exact ze3|refine ze2 ?_ ?_|refine ze4 ?_|exact ze5|fail)
    all_goals exact zp rfl
   | true=>
    rw[p]at l
    cases q:Z5 ctl.first first with
    | false=>
     rw[q]at m
     repeat'(first|(refine zhm fun hb=>?_;try exact zab)|refine Qd ?_|(apply zch;exact zcg)|exact zhk|refine zg3 ?_ ?_|refine kmu c ?_|intro _)
     refine zr [] ?_ ?_
     repeat'(first|exact ze3|refine ze2 ?_ ?_|refine ze4 ?_|exact ze5|fail)
     all_goals exact zp rfl
    | true=>
     rw[q]at m
     repeat'(first|(refine zhm fun hb=>?_;try exact zab)|refine Qd ?_|(apply zch;exact zcg)|exact zhk|refine zg3 ?_ ?_|refine kmu c ?_|intro _)
     all_goals
      refine zr [] ?_ ?_
      repeat'(first|exact ze3|refine ze2 ?_ ?_|refine ze4 ?_|exact ze5|fail)
      all_goals first|exact zp rfl|exact zp (beqN _)
  | false=>
   have e:=QoL (s:=first) (b:=bytes) hs.first i
   have g:=QoA hs.ctl
   generalize hF:Y6 first bytes=F at e ⊢
   obtain⟨o,k⟩:=F
   cases o with
   | none=>
    dsimp only[coR,coB]at e
    cases f:Qak ctl with
    | false=>
     rw[f]at g
     repeat'(first|(refine zhm fun hb=>?_;try exact zab)|refine Qd ?_|(apply zch;exact zcg)|exact zhk|refine zg3 ?_ ?_|refine kmu c ?_|intro _)
     refine zr [] ?_ ?_
     repeat'(first|exact ze3|refine ze2 ?_ ?_|refine ze4 ?_|exact ze5|fail)
     all_goals exact zp rfl
    | true=>
     rw[f]at g
     repeat'(first|(refine zhm fun hb=>?_;try exact zab)|refine Qd ?_|(apply zch;exact zcg)|exact zhk|refine zg3 ?_ ?_|refine kmu c ?_|intro _)
     refine zr [] ?_ ?_
     repeat'(first|exact ze3|refine ze2 ?_ ?_|refine ze4 ?_|exact ze5|fail)
     all_goals first|exact zp rfl
   | some x=>
    have e:=dc_a e
    dsimp only[coR,coB]at e
    cases f:Qak ctl with
    | false=>
     rw[f]at g
     repeat'(first|(refine zhm fun hb=>?_;try exact zab)|refine Qd ?_|(apply zch;exact zcg)|exact zhk|refine zg3 ?_ ?_|refine kmu c ?_|refine kmu e ?_|intro _)
     refine zr [] ?_ ?_
     repeat'(first|exact ze3|refine ze2 ?_ ?_|refine ze4 ?_|exact ze5|fail)
     all_goals exact zp rfl
    | true=>
     rw[f]at g
     repeat'(first|(refine zhm fun hb=>?_;try exact zab)|refine Qd ?_|(apply zch;exact zcg)|exact zhk|refine zg3 ?_ ?_|refine kmu c ?_|refine kmu e ?_|intro _)
     refine zr [] ?_ ?_
     repeat'(first|exact ze3|refine ze2 ?_ ?_|refine ze4 ?_|exact ze5|fail)
     all_goals first|exact zp rfl
theorem Qq4{w:Wld}(hs:XN w):zAc 128 [wldA w] [.d (.b (QK w))] []:=by
 refine zAC func128 fun w0 Z=>?_
 obtain⟨t,first,ctl,bytes,f⟩:=w
 have h:Qo 100000000 first:=hs.first.mono (by omega)
 have r:=Qu bytes
 have g:bytes.length<=1048576:=hs.bytes
 unfold QK
 dsimp only
 cases m:YN first with
 | false=>
  have e:=X5 h
  rw[m]at e
  repeat'(first|(refine zhm fun hb=>?_;try exact zab)|refine Qd ?_|(apply zch;exact zcg)|exact zhk|refine zg3 ?_ ?_|intro _)
  refine zr [] ?_ ?_
  repeat'(first|exact ze3|refine ze2 ?_ ?_|refine ze4 ?_|exact ze5|fail)
  all_goals exact zp rfl
 | true=>
  have e:=X5 h
  rw[m]at e
  cases t with
  | true=>
   have i:=QpI hs.ctl
   have j:=QdU (a:=ctl.first) (b:=first) (hs.ctl.first.mono (by omega)) h
   cases n:Y8 ctl with
   | false=>
    rw[n]at i
    repeat'(first|(refine zhm fun hb=>?_;try exact zab)|refine Qd ?_|(apply zch;exact zcg)|exact zhk|refine zg3 ?_ ?_|intro _)
    refine zr [] ?_ ?_
    repeat'(first|exact ze3|refine ze2 ?_ ?_|refine ze4 ?_|exact ze5|fail)
    all_goals exact zp rfl
   | true=>
    rw[n]at i
    cases p:Z5 ctl.first first with
    | false=>
     rw[p]at j
     repeat'(first|(refine zhm fun hb=>?_;try exact zab)|refine Qd ?_|(apply zch;exact zcg)|exact zhk|refine zg3 ?_ ?_|intro _)
     refine zr [] ?_ ?_
     repeat'(first|exact ze3|refine ze2 ?_ ?_|refine ze4 ?_|exact ze5|fail)
     all_goals exact zp rfl
    | true=>
     rw[p]at j
     repeat'(first|(refine zhm fun hb=>?_;try exact zab)|refine Qd ?_|(apply zch;exact zcg)|exact zhk|refine zg3 ?_ ?_|intro _)
     all_goals
      refine zr [] ?_ ?_
      repeat'(first|exact ze3|refine ze2 ?_ ?_|refine ze4 ?_|exact ze5|fail)
      all_goals first|exact zp rfl|exact zp (beqN _)
  | false=>
   have c:=Qof (s:=first) (b:=bytes) hs.first g
   have l:=QvY hs.ctl
   generalize hF:Y6 first bytes=F at c ⊢
   obtain⟨o,k⟩:=F
   dsimp only at c
   cases q:Qak ctl with
   | false=>
    rw[q]at l
    repeat'(first|(refine zhm fun hb=>?_;try exact zab)|refine Qd ?_|(apply zch;exact zcg)|exact zhk|refine zg3 ?_ ?_|refine kmu c ?_|intro _)
    refine zr [] ?_ ?_
    repeat'(first|exact ze3|refine ze2 ?_ ?_|refine ze4 ?_|exact ze5|fail)
    all_goals exact zp rfl
   | true=>
    rw[q]at l
    repeat'(first|(refine zhm fun hb=>?_;try exact zab)|refine Qd ?_|(apply zch;exact zcg)|exact zhk|refine zg3 ?_ ?_|refine kmu c ?_|intro _)
    refine zr [] ?_ ?_
    repeat'(first|exact ze3|refine ze2 ?_ ?_|refine ze4 ?_|exact ze5|fail)
    all_goals first|exact zp rfl
end
section
attribute [local irreducible] AWp QM OpOk ACalls ChA QsOk MCalls EnC PY
theorem Qix{l:List UInt8}(h:l.length<=1048576):zAc 75 [zL (QC l)] [.row 0] [(0,.row 5 (QC l) true)]:=by
 refine zAC func75 fun w0 Z=>?_
 have hl:=Qu l
 repeat'(first|(refine zhm fun hb=>?_;try exact zab)|refine zUtp ?_|refine zg2 ?_ ?_|intro _)
 refine Qa (fun(i:Nat)=>⟨22,[(0,zL (QC l)),(3,.row 7),(4,zI i)],[(7,.row 5 (QC (cpyL l 0 i)) true)]⟩) (fun i=>i<=l.length) (fun i=>l.length-i) 0 (by exact Xae _) ?_ ?_
 ·refine⟨rfl,?_,?_,rfl⟩
  repeat'(first|exact ze3|refine ze2 ?_ ?_|refine ze4 ?_|exact ze5|fail)
  all_goals exact zp (by first|rfl|(rw[JV];exact(List.map_replicate ..).symm)|(rw[JV];simp[QC]))
 ·intro i d
  have e:(QC (cpyL l 0 i)).length=l.length:=by rw[Qu];exact Qt _ _ d
  have c:=Qt l 0 d
  by_cases a:i<l.length
  ·repeat'(first|(refine zhm fun hb=>?_;try exact zab)|refine zUtp ?_|refine zg2 ?_ ?_|intro _)
   refine⟨i+1,by omega,by omega,?_⟩
   refine⟨rfl,?_,?_,rfl⟩
   repeat'(first|exact ze3|refine ze2 ?_ ?_|refine ze4 ?_|exact ze5|fail)
   all_goals exact zp (by first|rfl|exact Yf (f:=(fun(b:UInt8)=>([.n .u8 (b.toNat:Int)]:List D))) a)
  ·obtain rfl:i=l.length:=by omega
   repeat'(first|(refine zhm fun hb=>?_;try exact zab)|refine zUtp ?_|refine zg2 ?_ ?_|intro _)
   refine zr [7] ?_ ?_
   repeat'(first|exact ze3|refine ze2 ?_ ?_|refine ze4 ?_|exact ze5|fail)
   all_goals exact zp (by first|rfl|rw[Ye])
theorem QjO{j:QU}(h:j.bytes.length<=1048576):zAc 147 [jnA j] [jnR j] (jnO j):=by
 refine zAC func147 fun w0 Z=>?_
 repeat'(first|(refine zhm fun hb=>?_;try exact zab)|refine zUto ?_|refine zg2 ?_ ?_|refine kc (Qix (l:=j.bytes) h) rfl rfl ?_|intro _)
 refine zr [6] ?_ ?_
 repeat'(first|exact ze3|refine ze2 ?_ ?_|refine ze4 ?_|exact ze5|fail)
 all_goals exact zp rfl
theorem QuX{c:Ctl}(h:J1 1048576 c):zAc 74 [ctlA c] [Qqq c] (Qsu c):=by
 refine zAC func74 fun w0 Z=>?_
 repeat'(first|(refine zhm fun hb=>?_;try exact zab)|refine zUto ?_|refine zg2 ?_ ?_|refine kc (QdL (s:=c.first) h.first) rfl rfl ?_|refine kc (QdL (s:=c.state) h.state) rfl rfl ?_|refine kc (QjO (j:=c.jn) h.jn) rfl rfl ?_|intro _)
 refine zr [6,1006,2006,3006,4006,5006,10,1010,2010,3010,4010,5010,14] ?_ ?_
 repeat'(first|exact ze3|refine ze2 ?_ ?_|refine ze4 ?_|exact ze5|fail)
 all_goals exact zp rfl
def gB(k j:Nat):UInt8:=UInt8.ofNat (k+j)
theorem QaI{b:List UInt8}{k:Nat}(h:b.length<=1000000000)(hk:k<=100000000000000):MCalls Tryz.prog 85 [.row 1000000,zI k] [(1000000,.row 5 (QC b) true)] (fun(_:Unit)=>True) (fun _=>[zI ((k+b.length:Nat):Int)]) (fun _=>[(1000000,.row 5 (QC (JQ (gB k) b.length)) true)]) (fun _=>[]):=by
 refine Jb tt func85 rfl rfl rfl ⟨.inl rfl,trivial⟩ (fun _ _=>⟨⟨⟨rfl,rfl,QfP (QG _ _).symm⟩,trivial⟩,.inl rfl,trivial⟩) (fun w0 Z O=>?_)
 repeat'(first|(refine zhm fun hb=>?_;try exact zab)|refine zUtp ?_|refine zg2 ?_ ?_|intro _)
 refine Qa (fun(i:Nat)=>⟨20,[(0,.row 1000000),(1,zI ((k+i:Nat):Int)),(5,zI i)],[(1000000,.row 5 (QC (mkL (gB k) b i)) true)]⟩) (fun i=>i<=b.length) (fun i=>b.length-i) 0 (by omega) ?_ ?_
 ·refine⟨rfl,?_,?_,rfl⟩
  repeat'(first|exact ze3|refine ze2 ?_ ?_|refine ze4 ?_|exact ze5|fail)
  all_goals exact zp (by first|rfl)
 ·intro i a
  have hl:=JO (gB k) b a
  repeat'(first|(refine zhm fun hb=>?_;try exact zab)|refine zUtp ?_|refine zg2 ?_ ?_|intro _)
  ·refine⟨i+1,by omega,by omega,?_⟩
   refine⟨rfl,?_,?_,rfl⟩
   repeat'(first|exact ze3|refine ze2 ?_ ?_|refine ze4 ?_|exact ze5|fail)
   all_goals exact zp (by first|rfl|exact Qay (f:=fun(b:UInt8)=>[D.n .u8 (b.toNat:Int)]) (by omega))
  ·obtain rfl:i=b.length:=by omega
   refine zp ?_
   refine Jk () [] (by exact trivial) rfl ?_ ?_ ?_
   repeat'(first|exact ze3|refine ze2 ?_ ?_|refine ze4 ?_|exact ze5|fail)
   all_goals exact zp (by first|rfl|rw[Qau])
theorem Qfc{n k:Nat}(h:n<=1000000000)(hk:k<=100000000000000):zAc 89 [zL (QC (JQ (gB k) n)),zI k] [zI ((k+n:Nat):Int)] []:=by
 refine zAC func89 fun w0 Z=>?_
 have hl:=QG (gB k) n
 repeat'(first|(refine zhm fun hb=>?_;try exact zab)|refine zUtp ?_|refine zg2 ?_ ?_|intro _)
 refine Qa (fun(i:Nat)=>⟨22,[(0,zL (QC (JQ (gB k) n))),(1,zI ((k+i:Nat):Int)),(5,zI i)],[]⟩) (fun i=>i<=n) (fun i=>n-i) 0 (by omega) ?_ ?_
 ·refine⟨rfl,?_,?_,rfl⟩
  repeat'(first|exact ze3|refine ze2 ?_ ?_|refine ze4 ?_|exact ze5|fail)
  all_goals exact zp rfl
 ·intro i hi
  repeat'(first|(refine zhm fun hb=>?_;try exact zab)|refine zUtp ?_|refine zg2 ?_ ?_|intro _)
  ·exact absurd (by rw[ZF (by omega)];rfl) hb
  ·refine⟨i+1,by omega,by omega,?_⟩
   refine⟨rfl,?_,?_,rfl⟩
   repeat'(first|exact ze3|refine ze2 ?_ ?_|refine ze4 ?_|exact ze5|fail)
   all_goals exact zp rfl
  ·obtain rfl:i=n:=by omega
   refine zr [] ?_ ?_
   repeat'(first|exact ze3|refine ze2 ?_ ?_|refine ze4 ?_|exact ze5|fail)
   all_goals exact zp rfl
theorem lnY{k:Nat}{l:List UInt8}:(QC l).map List.length=(QC (JQ (gB k) l.length)).map List.length:=(QfP (QG _ _)).symm
def kCt(k:Nat)(c:Ctl):Nat:=kSt (kSt k c.first) c.state+c.jn.bytes.length
def mCt(k:Nat)(c:Ctl):Ctl:=⟨mSt k c.first,mSt (kSt k c.first) c.state,⟨JQ (gB (kSt (kSt k c.first) c.state)) c.jn.bytes.length,c.jn.synced,c.jn.count⟩⟩
@[reducible] def QxV (c:Ctl):List (Nat×AO):=[(1000000,.row 3 (intE c.first.topo.parents) true),(1000001,.row 62 (Qr c.first.topo.nodes) true),(1000002,.row 4 (Qk c.first.up) true),(1000003,.row 40 (jobE c.first.queue) true),(1000004,.row 66 (runE c.first.runs) true),(1000005,.row 123 (endE c.first.ends) true),(1000006,.row 3 (intE c.state.topo.parents) true),(1000007,.row 62 (Qr c.state.topo.nodes) true),(1000008,.row 4 (Qk c.state.up) true),(1000009,.row 40 (jobE c.state.queue) true),(1000010,.row 66 (runE c.state.runs) true),(1000011,.row 123 (endE c.state.ends) true),(1000012,.row 5 (QC (c).jn.bytes) true)]
theorem QgC{j:QU}{k:Nat}(h:j.bytes.length<=1000000000)(hk:k<=100000000000000):MCalls Tryz.prog 162 [.agg [.row 1000000,zI j.synced,zI j.count],zI k] [(1000000,.row 5 (QC j.bytes) true)] (fun(_:Unit)=>True) (fun _=>[zI ((k+j.bytes.length:Nat):Int)]) (fun _=>[(1000000,.row 5 (QC (JQ (gB k) j.bytes.length)) true)]) (fun _=>[]):=by
 refine Jb tt func162 rfl rfl rfl ⟨.inl rfl,trivial⟩ (fun _ _=>⟨⟨⟨rfl,rfl,lnY⟩,trivial⟩,.inl rfl,trivial⟩) (fun w0 Z O=>?_)
 repeat'(first|(refine zhm fun hb=>?_;try exact zab)|refine zUto ?_|refine zg2 ?_ ?_|(refine km [1000000] (QaI (b:=j.bytes) (k:=k) h hk) rfl rfl (fun i hi=>?_);try dsimp only at hi)|intro _)
 refine zp ?_
 refine Jk () [] (by exact trivial) rfl ?_ ?_ ?_
 all_goals exact zae
theorem QgB{s c:Int}{n k:Nat}(h:n<=1000000000)(hk:k<=100000000000000):zAc 168 [jnA ⟨JQ (gB k) n,s,c⟩,zI k] [zI ((k+n:Nat):Int)] []:=by
 refine zAC func168 fun w0 Z=>?_
 repeat'(first|(refine zhm fun hb=>?_;try exact zab)|refine zUto ?_|refine zg2 ?_ ?_|refine kc (Qfc h hk) rfl rfl ?_|intro _)
 refine zr [] ?_ ?_
 repeat'(first|exact ze3|refine ze2 ?_ ?_|refine ze4 ?_|exact ze5|fail)
 all_goals exact zp rfl
theorem Qh7{c:Ctl}{k:Nat}(h:J1 1048576 c)(hk:k<=10000000000000):MCalls Tryz.prog 84 [.agg (stC c.first 1000000 1000001 1000002 1000003 1000004 1000005++(stC c.state 1000006 1000007 1000008 1000009 1000010 1000011++[.row 1000012,zI c.jn.synced,zI c.jn.count])),zI k] (QxV c) (fun(_:Unit)=>True) (fun _=>[zI ((kCt k c:Nat):Int)]) (fun _=>QxV (mCt k c)) (fun _=>[]):=by
 refine Jb tt func84 rfl rfl rfl ⟨.inl rfl,.inl rfl,.inl rfl,.inl rfl,.inl rfl,.inl rfl,.inl rfl,.inl rfl,.inl rfl,.inl rfl,.inl rfl,.inl rfl,.inl rfl,trivial⟩ (fun _ _=>⟨⟨⟨rfl,rfl,lnI⟩,⟨rfl,rfl,lnN⟩,⟨rfl,rfl,lnB⟩,⟨rfl,rfl,lnJ⟩,⟨rfl,rfl,lnR⟩,⟨rfl,rfl,lnE⟩,⟨rfl,rfl,lnI⟩,⟨rfl,rfl,lnN⟩,⟨rfl,rfl,lnB⟩,⟨rfl,rfl,lnJ⟩,⟨rfl,rfl,lnR⟩,⟨rfl,rfl,lnE⟩,⟨rfl,rfl,lnY⟩,trivial⟩,.inl rfl,.inl rfl,.inl rfl,.inl rfl,.inl rfl,.inl rfl,.inl rfl,.inl rfl,.inl rfl,.inl rfl,.inl rfl,.inl rfl,.inl rfl,trivial⟩) (fun w0 Z O=>?_)
 have hb:=Zt h.first (k:=k) (by omega)
 have a:=Zt h.state (k:=kSt k c.first) (by omega)
 have hj:=h.jn
 repeat'(first|(refine zhm fun hb=>?_;try exact zab)|refine zUto ?_|refine zg2 ?_ ?_|(refine km [1000000,1000001,1000002,1000003,1000004,1000005] (VG (k:=k) h.first (by omega)) rfl rfl (fun i hi=>?_);try dsimp only at hi)|(refine km [1000006,1000007,1000008,1000009,1000010,1000011] (VG (k:=kSt k c.first) h.state (by omega)) rfl rfl (fun i hi=>?_);try dsimp only at hi)|(refine km [1000012] (QgC (j:=c.jn) (k:=kSt (kSt k c.first) c.state) (by omega) (by omega)) rfl rfl (fun i hi=>?_);try dsimp only at hi)|intro _)
 refine zp ?_
 refine Jk () [] (by exact trivial) rfl ?_ ?_ ?_
 all_goals exact zae
theorem Qok{c:Ctl}{k:Nat}(h:J1 1048576 c)(hk:k<=10000000000000):zAc 88 [ctlA (mCt k c),zI k] [zI ((kCt k c:Nat):Int)] []:=by
 refine zAC func88 fun w0 Z=>?_
 have hb:=Zt h.first (k:=k) (by omega)
 have a:=Zt h.state (k:=kSt k c.first) (by omega)
 have hj:=h.jn
 repeat'(first|(refine zhm fun hb=>?_;try exact zab)|refine zUto ?_|refine zg2 ?_ ?_|refine kc (Qas (k:=k) h.first (by omega)) rfl rfl ?_|refine kc (Qas (k:=kSt k c.first) h.state (by omega)) rfl rfl ?_|refine kc (QgB (n:=c.jn.bytes.length) (k:=kSt (kSt k c.first) c.state) (by omega) (by omega)) rfl rfl ?_|intro _)
 refine zr [] ?_ ?_
 repeat'(first|exact ze3|refine ze2 ?_ ?_|refine ze4 ?_|exact ze5|fail)
 all_goals exact zp rfl
end
end Go.Proofs.YtkdniahincpmaaaGreat
