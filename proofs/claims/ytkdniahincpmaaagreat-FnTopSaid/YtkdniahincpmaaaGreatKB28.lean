/-
  What starts, where there is no room; then for any state; both.
-/
import Derived.Test.YtkdniahincpmaaaGreatKB27
set_option maxRecDepth 100000
set_option maxHeartbeats 16000000
namespace Go.Proofs.YtkdniahincpmaaaGreat
open Go Go.RowKit Tryz
section
attribute [local irreducible] AWp QI OpOk ACalls ChA QsOk MCalls NCalls EnC PY

theorem QuR:JG ⟨[],[]⟩=false:=by
 cases h:JG ⟨[],[]⟩ with
 | false=>rfl
 | true=>
  have:=(JY.1 h).len
  simp at this
theorem QqP:zAc 203 [Wq zR] [.d (.b false)] []:=by
 refine zAC func203 fun w0 Z=>?_
 have a:=Qbo (t:=⟨[],[]⟩) (by simp) (by simp)
 rw[QuR]at a
 repeat'(first|(refine zhm fun hb=>?_;try exact zab)|refine zUtp ?_|refine zg2 ?_ ?_|intro _)
 exact zrr
theorem QoN:zAc 213 [Wq zR] [.d (.b false)] []:=by
 refine zAC func213 fun w0 Z=>?_
 have a:=ZU (t:=⟨[],[]⟩) (by simp) (by simp)
 rw[QuR]at a
 repeat'(first|(refine zhm fun hb=>?_;try exact zab)|refine zUtp ?_|refine zg2 ?_ ?_|intro _)
 exact zrr
theorem QvA{now depth:Int}{l:List Job}:DC Tryz.prog 123 [Wq zR,zI now,zL (jobE l),zI depth] [zL [],zL [],.d (.b false)]:=by
 refine zMC func123 fun w0 Z O=>?_
 repeat'(first|(refine zhm fun hb=>?_;try exact zab)|refine zUrp ?_|refine zg2 ?_ ?_|refine zqj QqP ?_|intro _)
 exact zDR
theorem Qvr{now depth:Int}{l:List Job}:DC Tryz.prog 126 [Wq zR,zI now,zL (jobE l),zI depth] [zL [],zL [],.d (.b false)]:=by
 refine zMC func126 fun w0 Z O=>?_
 repeat'(first|(refine zhm fun hb=>?_;try exact zab)|refine zUrp ?_|refine zg2 ?_ ?_|refine zqj QoN ?_|intro _)
 exact zDR
theorem QbW{s:Qb}(h:Jg s=none):Jr s=s:=by
 have:Ww s=([],[]):=by unfold Ww;rw[h]
 unfold Jr
 rw[this]
 rfl
theorem Qp2{s:Qb}(hs:Qj 100000000 s)(h:Jg s=none):zAc 241 [Qt s] [QaX s 0 1 2 3 4 5] (QcT s):=by
 refine zAC func241 fun w0 Z=>?_
 have a:=QbA (hs.mono (m:=1000000000) (by omega))
 rw[h]at a
 have c3:=Q2 hs
 repeat'(first|(refine zhm fun hb=>?_;try exact zab)|refine Qd ?_|(apply zch;exact zcg)|exact zhk|refine zg3 ?_ ?_|refine kmu a ?_|refine kmu QvA ?_|intro _)
 refine Qa (fun(_:Unit)=>⟨66,[(1,.ptr 1 0),(2,.ptr 2 0),(8,.ptr 8 0),(31,zL []),(32,zI 0),(33,zI 0)],[(1,.box 34 (Q3 s)),(2,.box 34 ctl0),(8,.box 34 (stC s 30 1030 2030 3030 4030 5030)),(30,.row 3 (intE s.topo.parents) true),(1030,.row 62 (Qw s.topo.nodes) true),(2030,.row 4 (Qp s.up) true),(3030,.row 40 (jobE s.queue) true),(4030,.row 66 (runE s.runs) true),(5030,.row 123 (endE s.ends) true)]⟩) (fun _=>True) (fun _=>0) () trivial ?_ ?_
 ·exact zll
 intro _ _
 repeat'(first|(refine zhm fun hb=>?_;try exact zab)|refine Qd ?_|(apply zch;exact zcg)|exact zhk|refine zg3 ?_ ?_|intro _)
 exact zr [30,1030,2030,3030,4030,5030] zae zae
theorem Qnp{s:Qb}(hs:Qj 100000000 s)(h:Jg s=none):NCalls Tryz.prog 315 [.agg (W9 s 500000 500001)] [(500000,.row 66 (runE s.runs) false),(500001,.row 123 (endE s.ends) true)] (fun _:Unit=>True) (fun _=>[.agg (W9 s 0 1)]) (fun _=>[(0,.row 66 (runE s.runs) false),(1,.row 123 (endE s.ends) true)]):=by
 refine W8 tt func315 rfl rfl rfl (fun _ _=>rfl) (fun w0 Z O=>?_)
 have a:=Qhr (hs.mono (m:=1000000000) (by omega))
 rw[h]at a
 repeat'(first|(refine zhm fun hb=>?_;try exact zab)|refine zUtp ?_|refine zg2 ?_ ?_|(refine km [500000,500001] (a) rfl rfl (fun i hi=>?_);try dsimp only at hi)|refine kmu Qvr ?_|intro _)
 refine Qa (fun(_:Unit)=>⟨62,[(1,.ptr 1 0),(2,.ptr 2 0),(29,zL []),(30,zI 0),(31,zI 0)],[(1,.box 34 (W9 s 500000 500001)),(2,.box 34 ctl0),(500000,.row 66 (runE s.runs) false),(500001,.row 123 (endE s.ends) true)]⟩) (fun _=>True) (fun _=>0) () trivial ?_ ?_
 ·exact zll
 intro _ _
 repeat'(first|(refine zhm fun hb=>?_;try exact zab)|refine zUrp ?_|refine zg2 ?_ ?_|intro _)
 show AWp _ _ _ _
 apply Qu
 refine zn () [500000,500001] (by exact trivial) ?_ ?_
 all_goals exact zae
structure Qm8 (s:Qb):Prop where
 queue:Je s.queue
 depth:0<=s.depth/\s.depth<=60
theorem VR{s:Qb}(hs:Qj 100000000 s)(h:Qm8 s):zAc 241 [Qt s] [QaX (Jr s) 0 1 2 3 4 5] (QcT (Jr s)):=by
 cases a:Jg s with
 | some r=>exact Qrj hs ⟨a,h.queue,h.depth⟩
 | none=>rw[QbW a];exact Qp2 hs a
theorem WH{s:Qb}(hs:Qj 100000000 s)(h:Qm8 s):NCalls Tryz.prog 315 [.agg (W9 s 500000 500001)] [(500000,.row 66 (runE s.runs) false),(500001,.row 123 (endE s.ends) true)] (fun _:Unit=>True) (fun _=>[.agg (W9 (Jr s) 0 1)]) (fun _=>[(0,.row 66 (runE (Jr s).runs) false),(1,.row 123 (endE s.ends) true)]):=by
 cases a:Jg s with
 | some r=>exact Qnu hs ⟨a,h.queue,h.depth⟩
 | none=>rw[QbW a];exact Qnp hs a
theorem VZ{s:Qb}(h:Qm8 s)(hs:Qj 1048576 s)(hr:s.runs.length<=1000000):Qj 1048576 (Jr s):=by
 cases a:Jg s with
 | some r=>exact QjM ⟨a,h.queue,h.depth⟩ hs hr
 | none=>rw[QbW a];exact hs
theorem Zo{s:Qb}(h:Qe s=true):Qm8 s:=⟨(pB_t.1 h).jobs.left,(pB_t.1 h).depth⟩
@[reducible] def stR (o:Option Qb) (c:Int):List AV:=match o with
 | none=>[.agg ctl0,zI c]
 | some s=>[QaX s 0 1 2 3 4 5,zI c]
@[reducible] def stB (o:Option Qb):List (Nat×AO):=match o with
 | none=>[]
 | some s=>QcT s
abbrev SO(f:FuncId)(args:List AV)(o:Option Qb)(c:Int):Prop:=zAc f args (stR o c) (stB o)
abbrev SS(f:FuncId)(args:List AV)(o:Option Qb)(c:Int):Prop:=DC Tryz.prog f args [Qt (o.getD zS),zI c]
def resu(s:Qb)(n:Int):Qb:={ s with up:=s.up.set n.toNat true }
noncomputable def Yz (s:Qb) (n:Int):Option Qb×Int:=
 if Qe s=true then if 0<=n/\n<s.topo.nodes.length/\nth s.up n.toNat=false then(some (Jr (resu s n)),0) else(none,8) else(none,1)
theorem Qa6(l:List Bool)(k:Nat)(x:Bool):(Qp l).set k [.b x]=Qp (l.set k x):=by simp[Qp,List.map_set]
@[reducible] def QxM (s:Qb) (u:List (List D)):AV:=.agg [zL (intE s.topo.parents),zL (Qw s.topo.nodes),zL u,zI s.lic.a,zI s.lic.b,zI s.lic.c,zI s.depth,zI s.now,zL (jobE s.queue),zL (runE s.runs),zL (endE s.ends)]
@[reducible] def Qvu (s:Qb) (u:List (List D)) (q1 q2:Nat):List AV:=[zL (intE s.topo.parents),zL (Qw s.topo.nodes),zL u,zI s.lic.a,zI s.lic.b,zI s.lic.c,zI s.depth,zI s.now,zL (jobE s.queue),.row q1,.row q2]
theorem Qx3{s:Qb}{n:Int}:Qt (resu s n)=QxM s ((Qp s.up).set n.toNat [.b true]):=by rw[Qa6];rfl
theorem QxP{s:Qb}{n:Int}{q1 q2:Nat}:W9 (resu s n) q1 q2=Qvu s ((Qp s.up).set n.toNat [.b true]) q1 q2:=by rw[Qa6];rfl
theorem QxY{s:Qb}(h:Qe s=true):s.up.length=s.topo.nodes.length:=(Xu h).up
theorem QsG{s:Qb}{n:Int}(hs:Qj 1048576 s):SO 182 [Qt s,zI n] (Yz s n).1 (Yz s n).2:=by
 refine zAC func182 fun w0 Z=>?_
 have a:Qj 100000000 s:=hs.mono (by omega)
 have c:=JX a
 unfold Yz
 cases h:Qe s with
 | false=>
  rw[h]at c
  rw[if_neg (by decide)]
  repeat'(first|(refine zhm fun hb=>?_;try exact zab)|refine zUtp ?_|refine zg2 ?_ ?_|intro _)
  exact zrr
 | true=>
  rw[h]at c
  rw[if_pos rfl]
  have l:=QxY h
  have j:=Qx s.up
  have d:=hs.up
  have e:=Zo h
  by_cases b:0<=n/\n<s.topo.nodes.length/\nth s.up n.toNat=false
  ·rw[if_pos b]
   obtain⟨h1,h2,g⟩:=b
   have k:n=(n.toNat:Int):=by omega
   have i:Qj 100000000 (resu s n):=⟨a.par,a.nod,by rw[resu,XaM];exact a.up,a.que,a.run,a.end',a.rno⟩
   have f:=VR i ⟨e.queue,e.depth⟩
   rw[Qx3]at f
   repeat'(first|(refine zhm fun hb=>?_;try exact zab)|refine zUtp ?_|refine zg2 ?_ ?_|refine zqj QV ?_|refine kc (Q2 a) rfl rfl ?_|intro _)
   all_goals first
    | (exfalso;omega)
    | (exfalso;rw[g]at hb;cases hb;done)
    | skip
   exact zr [32,1032,2032,3032,4032,5032] zae zae
  ·rw[if_neg b]
   repeat'(first|(refine zhm fun hb=>?_;try exact zab)|refine zUtp ?_|refine zg2 ?_ ?_|refine zqj QV ?_|intro _)
   all_goals first
    | (exfalso;exact b ⟨by omega,by omega,by assumption⟩)
    | skip
   any_goals
    refine zr [] ?_ ?_
    repeat'(first|exact ze3|refine ze2 ?_ ?_|refine ze4 ?_|exact ze5|fail)
    all_goals exact zp rfl
theorem Qub{s:Qb}{n:Int}(hs:Qj 1048576 s):SS 287 [Qt s,zI n] (Yz s n).1 (Yz s n).2:=by
 refine zMC func287 fun w0 Z O=>?_
 have b:Qj 100000000 s:=hs.mono (by omega)
 have d:=Yl b
 unfold Yz
 cases h:Qe s with
 | false=>
  rw[h]at d
  rw[if_neg (by decide)]
  repeat'(first|(refine zhm fun hb=>?_;try exact zab)|refine zUro ?_|refine zg2 ?_ ?_|intro _)
  exact zDR
 | true=>
  rw[h]at d
  rw[if_pos rfl]
  have q:=QxY h
  have p:=Qx s.up
  have j:=hs.up
  have k:=Zo h
  have f:=QiX (s:=s) (n:=n)
  by_cases a:0<=n/\n<s.topo.nodes.length
  ·rw[decide_eq_true a.1,decide_eq_true a.2]at f
   cases g:nth s.up n.toNat with
   | false=>
    rw[if_pos ⟨a.1,a.2,rfl⟩]
    obtain⟨l,m⟩:=a
    have c:n=(n.toNat:Int):=by omega
    have o:Qj 100000000 (resu s n):=⟨b.par,b.nod,by rw[resu,XaM];exact b.up,b.que,b.run,b.end',b.rno⟩
    have e:=WH o ⟨k.queue,k.depth⟩
    rw[QxP]at e
    repeat'(first|(refine zhm fun hb=>?_;try exact zab)|(refine Qh 7 23 rfl ?_)|(refine Qh 7 1023 rfl ?_)|(refine Qh 7 2023 rfl ?_)|(refine Qh 7 3023 rfl ?_)|(refine Qth 7 4023 rfl ?_)|refine zUro ?_|refine zg2 ?_ ?_|refine kc (XO b) rfl rfl ?_|(refine kn [4023,5023] (e) rfl rfl (fun i hi=>?_);try dsimp only at hi)|intro _)
    all_goals first
     | (exfalso;rw[g]at hb;cases hb;done)
     | skip
    show AWp _ _ _ _
    refine Qr 29 rfl ?_
    show AWp _ _ _ _
    refine Qr 1029 rfl ?_
    exact zDR
   | true=>
    rw[if_neg (fun h=>by cases h.2.2)]
    obtain⟨l,m⟩:=a
    have c:n=(n.toNat:Int):=by omega
    repeat'(first|(refine zhm fun hb=>?_;try exact zab)|refine zUro ?_|refine zg2 ?_ ?_|intro _)
    all_goals first
     | (exfalso;rw[g]at hb;cases hb;done)
     | skip
    exact zDR
  ·rw[show(decide (0<=n)&&decide (n<s.topo.nodes.length))=false by simp;omega]at f
   rw[if_neg (fun h=>a ⟨h.1,h.2.1⟩)]
   repeat'(first|(refine zhm fun hb=>?_;try exact zab)|refine zUro ?_|refine zg2 ?_ ?_|intro _)
   exact zDR

def resz(s:Qb)(v:V3):Qb:={ s with lic:=v }
noncomputable def YA (s:Qb) (v:V3):Option Qb×Int:=
 if Qe s=true/\Qf v=true then if(Jg (resz s v)).isSome=true then(some (Jr (resz s v)),0) else(none,9) else(none,1)
theorem Qcw{n:Nat}{s:Qb}{v:V3}(h:Qj n s):Qj n (resz s v):=⟨h.par,h.nod,h.up,h.que,h.run,h.end',h.rno⟩
theorem QtV{s:Qb}{v:V3}(hs:Qj 1048576 s):SO 183 [Qt s,vecA v] (YA s v).1 (YA s v).2:=by
 refine zAC func183 fun w0 Z=>?_
 have b:Qj 100000000 s:=hs.mono (by omega)
 have e:=Qcw (v:=v) b
 have c:=JX b
 have d:=Yy (v:=v)
 have a:=QbA (e.mono (m:=1000000000) (by omega))
 unfold YA
 cases h:Qe s with
 | false=>
  rw[h]at c
  rw[if_neg (fun h=>by cases h.1)]
  repeat'(first|(refine zhm fun hb=>?_;try exact zab)|refine zUto ?_|refine zg2 ?_ ?_|intro _)
  exact zrr
 | true=>
  rw[h]at c
  cases i:Qf v with
  | false=>
   rw[i]at d
   rw[if_neg (fun h=>by cases h.2)]
   repeat'(first|(refine zhm fun hb=>?_;try exact zab)|refine zUto ?_|refine zg2 ?_ ?_|intro _)
   exact zrr
  | true=>
   rw[i]at d
   rw[if_pos ⟨rfl,rfl⟩]
   have f:=Zo h
   have c4:=VR e ⟨f.queue,f.depth⟩
   cases g:Jg (resz s v) with
   | none=>
    rw[g]at a
    rw[if_neg (show ¬((none:Option Jm).isSome=true) by decide)]
    repeat'(first|(refine zhm fun hb=>?_;try exact zab)|refine zUto ?_|refine zg2 ?_ ?_|refine kmu (Qfh b) ?_|refine kmu a ?_|intro _)
    exact zrr
   | some r=>
    rw[g]at a
    rw[if_pos (show(some r).isSome=true from rfl)]
    repeat'(first|(refine zhm fun hb=>?_;try exact zab)|refine zUto ?_|refine zg2 ?_ ?_|refine kmu (Qfh b) ?_|refine kmu a ?_|intro _)
    exact zr [30,1030,2030,3030,4030,5030] zae zae
theorem QsN{s:Qb}{v:V3}(hs:Qj 1048576 s):SS 288 [Qt s,vecA v] (YA s v).1 (YA s v).2:=by
 refine zMC func288 fun w0 Z O=>?_
 have b:Qj 100000000 s:=hs.mono (by omega)
 have e:=Qcw (v:=v) b
 have c:=Yl b
 have d:=J5 (v:=v)
 have a:=Qhr (e.mono (m:=1000000000) (by omega))
 unfold YA
 cases h:Qe s with
 | false=>
  rw[h]at c
  rw[if_neg (fun h=>by cases h.1)]
  repeat'(first|(refine zhm fun hb=>?_;try exact zab)|refine zUro ?_|refine zg2 ?_ ?_|intro _)
  exact zDR
 | true=>
  rw[h]at c
  cases j:Qf v with
  | false=>
   rw[j]at d
   rw[if_neg (fun h=>by cases h.2)]
   repeat'(first|(refine zhm fun hb=>?_;try exact zab)|refine zUro ?_|refine zg2 ?_ ?_|intro _)
   exact zDR
  | true=>
   rw[j]at d
   rw[if_pos ⟨rfl,rfl⟩]
   have f:=Zo h
   have k:=WH e ⟨f.queue,f.depth⟩
   cases g:Jg (resz s v) with
   | none=>
    rw[g]at a
    rw[if_neg (show ¬((none:Option Jm).isSome=true) by decide)]
    repeat'(first|(refine zhm fun hb=>?_;try exact zab)|refine zUro ?_|refine zg2 ?_ ?_|refine kmu (Qe9 b) ?_|(refine km [18,1018] (a) rfl rfl (fun i hi=>?_);try dsimp only at hi)|intro _)
    exact zDR
   | some r=>
    rw[g]at a
    rw[if_pos (show(some r).isSome=true from rfl)]
    repeat'(first|(refine zhm fun hb=>?_;try exact zab)|refine zUro ?_|refine zg2 ?_ ?_|refine kmu (Qe9 b) ?_|(refine km [18,1018] (a) rfl rfl (fun i hi=>?_);try dsimp only at hi)|(refine kn [18,1018] (k) rfl rfl (fun i hi=>?_);try dsimp only at hi)|intro _)
    show AWp _ _ _ _
    refine Qr 30 rfl ?_
    show AWp _ _ _ _
    refine Qr 1030 rfl ?_
    exact zDR
theorem QhZ{s:Qb}{v:V3}(hs:Qj 1048576 s):∀s',(YA s v).1=some s'->Qj 1048576 s':=fun s' h=>by
 unfold YA at h
 split at h
 ·rename_i a
  split at h
  ·cases h
   have b:=Zo a.1
   exact VZ ⟨b.queue,b.depth⟩ (Qcw hs) (by have:=QaP a.1;simp only[resz];omega)
  ·cases h
 ·cases h
theorem Qhx{s:Qb}{n:Int}(hs:Qj 1048576 s):∀s',(Yz s n).1=some s'->Qj 1048576 s':=fun s' h=>by
 unfold Yz at h
 split at h
 ·rename_i a
  split at h
  ·cases h
   have b:=Zo a
   exact VZ ⟨b.queue,b.depth⟩ ⟨hs.par,hs.nod,by rw[resu,XaM];exact hs.up,hs.que,hs.run,hs.end',hs.rno⟩ (by have:=QaP a;simp only[resu];omega)
  ·cases h
 ·cases h
end
end Go.Proofs.YtkdniahincpmaaaGreat
