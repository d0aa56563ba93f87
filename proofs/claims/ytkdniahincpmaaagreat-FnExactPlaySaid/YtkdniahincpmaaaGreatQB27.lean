/-
  What starts, where there is no room; then for any state; both.
-/
import Derived.Test.YtkdniahincpmaaaGreatQB26
set_option maxRecDepth 100000
set_option maxHeartbeats 16000000
namespace Go.Proofs.YtkdniahincpmaaaGreat
open Go Go.RowKit Tryz
section
attribute [local irreducible] AWp QM OpOk ACalls ChA QsOk MCalls NCalls EnC PY

theorem QuB:JB ⟨[],[]⟩=false:=by
 cases h:JB ⟨[],[]⟩ with
 | false=>rfl
 | true=>
  have:=(J8.1 h).len
  simp at this
theorem QqM:zAc 203 [Ws zR] [.d (.b false)] []:=by
 refine zAC func203 fun w0 Z=>?_
 have a:=Qdx (t:=⟨[],[]⟩) (by simp) (by simp)
 rw[QuB]at a
 repeat'(first|(refine zhm fun hb=>?_;try exact zab)|refine zUtp ?_|refine zg2 ?_ ?_|intro _)
 exact zrr
theorem QpS:zAc 213 [Ws zR] [.d (.b false)] []:=by
 refine zAC func213 fun w0 Z=>?_
 have a:=ZW (t:=⟨[],[]⟩) (by simp) (by simp)
 rw[QuB]at a
 repeat'(first|(refine zhm fun hb=>?_;try exact zab)|refine zUtp ?_|refine zg2 ?_ ?_|intro _)
 exact zrr
theorem QvS{now depth:Int}{l:List Job}:DC Tryz.prog 123 [Ws zR,zI now,zL (jobE l),zI depth] [zL [],zL [],.d (.b false)]:=by
 refine zMC func123 fun w0 Z O=>?_
 repeat'(first|(refine zhm fun hb=>?_;try exact zab)|refine zUrp ?_|refine zg2 ?_ ?_|refine zqj QqM ?_|intro _)
 exact zDR
theorem Qvl{now depth:Int}{l:List Job}:DC Tryz.prog 126 [Ws zR,zI now,zL (jobE l),zI depth] [zL [],zL [],.d (.b false)]:=by
 refine zMC func126 fun w0 Z O=>?_
 repeat'(first|(refine zhm fun hb=>?_;try exact zab)|refine zUrp ?_|refine zg2 ?_ ?_|refine zqj QpS ?_|intro _)
 exact zDR
theorem Qa4{s:Qb}(h:Jr s=none):Js s=s:=by
 have:Vh s=([],[]):=by unfold Vh;rw[h]
 unfold Js
 rw[this]
 rfl
theorem Qp1{s:Qb}(hs:Qo 100000000 s)(h:Jr s=none):zAc 241 [Qz s] [Xo s 0 1 2 3 4 5] (QcO s):=by
 refine zAC func241 fun w0 Z=>?_
 have a:=Qdy (hs.mono (m:=1000000000) (by omega))
 rw[h]at a
 have c3:=Q4 hs
 repeat'(first|(refine zhm fun hb=>?_;try exact zab)|refine Qd ?_|(apply zch;exact zcg)|exact zhk|refine zg3 ?_ ?_|refine kmu a ?_|refine kmu QvS ?_|intro _)
 refine Qa (fun(_:Unit)=>⟨66,[(1,.ptr 1 0),(2,.ptr 2 0),(8,.ptr 8 0),(31,zL []),(32,zI 0),(33,zI 0)],[(1,.box 34 (JI s)),(2,.box 34 ctl0),(8,.box 34 (stC s 30 1030 2030 3030 4030 5030)),(30,.row 3 (intE s.topo.parents) true),(1030,.row 62 (Qr s.topo.nodes) true),(2030,.row 4 (Qk s.up) true),(3030,.row 40 (jobE s.queue) true),(4030,.row 66 (runE s.runs) true),(5030,.row 123 (endE s.ends) true)]⟩) (fun _=>True) (fun _=>0) () trivial ?_ ?_
 ·exact zll
 intro _ _
 repeat'(first|(refine zhm fun hb=>?_;try exact zab)|refine Qd ?_|(apply zch;exact zcg)|exact zhk|refine zg3 ?_ ?_|intro _)
 exact zr [30,1030,2030,3030,4030,5030] zae zae
theorem Qng{s:Qb}(hs:Qo 100000000 s)(h:Jr s=none):NCalls Tryz.prog 315 [.agg (W5 s 500000 500001)] [(500000,.row 66 (runE s.runs) false),(500001,.row 123 (endE s.ends) true)] (fun _:Unit=>True) (fun _=>[.agg (W5 s 0 1)]) (fun _=>[(0,.row 66 (runE s.runs) false),(1,.row 123 (endE s.ends) true)]):=by
 refine Ve tt func315 rfl rfl rfl (fun _ _=>rfl) (fun w0 Z O=>?_)
 have a:=Qhp (hs.mono (m:=1000000000) (by omega))
 rw[h]at a
 repeat'(first|(refine zhm fun hb=>?_;try exact zab)|refine zUtp ?_|refine zg2 ?_ ?_|(refine km [500000,500001] (a) rfl rfl (fun i hi=>?_);try dsimp only at hi)|refine kmu Qvl ?_|intro _)
 refine Qa (fun(_:Unit)=>⟨62,[(1,.ptr 1 0),(2,.ptr 2 0),(29,zL []),(30,zI 0),(31,zI 0)],[(1,.box 34 (W5 s 500000 500001)),(2,.box 34 ctl0),(500000,.row 66 (runE s.runs) false),(500001,.row 123 (endE s.ends) true)]⟩) (fun _=>True) (fun _=>0) () trivial ?_ ?_
 ·exact zll
 intro _ _
 repeat'(first|(refine zhm fun hb=>?_;try exact zab)|refine zUrp ?_|refine zg2 ?_ ?_|intro _)
 show AWp _ _ _ _
 apply Qs
 refine zn () [500000,500001] (by exact trivial) ?_ ?_
 all_goals exact zae
structure QmU (s:Qb):Prop where
 queue:Jg s.queue
 depth:0<=s.depth/\s.depth<=60
theorem VD{s:Qb}(hs:Qo 100000000 s)(h:QmU s):zAc 241 [Qz s] [Xo (Js s) 0 1 2 3 4 5] (QcO (Js s)):=by
 cases a:Jr s with
 | some r=>exact QpA hs ⟨a,h.queue,h.depth⟩
 | none=>rw[Qa4 a];exact Qp1 hs a
theorem Wz{s:Qb}(hs:Qo 100000000 s)(h:QmU s):NCalls Tryz.prog 315 [.agg (W5 s 500000 500001)] [(500000,.row 66 (runE s.runs) false),(500001,.row 123 (endE s.ends) true)] (fun _:Unit=>True) (fun _=>[.agg (W5 (Js s) 0 1)]) (fun _=>[(0,.row 66 (runE (Js s).runs) false),(1,.row 123 (endE s.ends) true)]):=by
 cases a:Jr s with
 | some r=>exact Qn9 hs ⟨a,h.queue,h.depth⟩
 | none=>rw[Qa4 a];exact Qng hs a
theorem VA{s:Qb}(h:QmU s)(hs:Qo 1048576 s)(hr:s.runs.length<=1000000):Qo 1048576 (Js s):=by
 cases a:Jr s with
 | some r=>exact QhR ⟨a,h.queue,h.depth⟩ hs hr
 | none=>rw[Qa4 a];exact hs
theorem Zg{s:Qb}(h:Qf s=true):QmU s:=⟨(pB_t.1 h).jobs.left,(pB_t.1 h).depth⟩
@[reducible] def stR (o:Option Qb) (c:Int):List AV:=match o with
 | none=>[.agg ctl0,zI c]
 | some s=>[Xo s 0 1 2 3 4 5,zI c]
@[reducible] def stB (o:Option Qb):List (Nat×AO):=match o with
 | none=>[]
 | some s=>QcO s
abbrev SO(f:FuncId)(args:List AV)(o:Option Qb)(c:Int):Prop:=zAc f args (stR o c) (stB o)
abbrev SS(f:FuncId)(args:List AV)(o:Option Qb)(c:Int):Prop:=DC Tryz.prog f args [Qz (o.getD zS),zI c]
def resu(s:Qb)(n:Int):Qb:={ s with up:=s.up.set n.toNat true }
noncomputable def Yw (s:Qb) (n:Int):Option Qb×Int:=
 if Qf s=true then if 0<=n/\n<s.topo.nodes.length/\nth s.up n.toNat=false then(some (Js (resu s n)),0) else(none,8) else(none,1)
theorem QbE(l:List Bool)(k:Nat)(x:Bool):(Qk l).set k [.b x]=Qk (l.set k x):=by simp[Qk,List.map_set]
@[reducible] def Qxm (s:Qb) (u:List (List D)):AV:=.agg [zL (intE s.topo.parents),zL (Qr s.topo.nodes),zL u,zI s.lic.a,zI s.lic.b,zI s.lic.c,zI s.depth,zI s.now,zL (jobE s.queue),zL (runE s.runs),zL (endE s.ends)]
@[reducible] def QwI (s:Qb) (u:List (List D)) (q1 q2:Nat):List AV:=[zL (intE s.topo.parents),zL (Qr s.topo.nodes),zL u,zI s.lic.a,zI s.lic.b,zI s.lic.c,zI s.depth,zI s.now,zL (jobE s.queue),.row q1,.row q2]
theorem Qxa{s:Qb}{n:Int}:Qz (resu s n)=Qxm s ((Qk s.up).set n.toNat [.b true]):=by rw[QbE];rfl
theorem Qxt{s:Qb}{n:Int}{q1 q2:Nat}:W5 (resu s n) q1 q2=QwI s ((Qk s.up).set n.toNat [.b true]) q1 q2:=by rw[QbE];rfl
theorem QxD{s:Qb}(h:Qf s=true):s.up.length=s.topo.nodes.length:=(QcU h).up
theorem QrX{s:Qb}{n:Int}(hs:Qo 1048576 s):SO 182 [Qz s,zI n] (Yw s n).1 (Yw s n).2:=by
 refine zAC func182 fun w0 Z=>?_
 have a:Qo 100000000 s:=hs.mono (by omega)
 have c:=YI a
 unfold Yw
 cases h:Qf s with
 | false=>
  rw[h]at c
  rw[if_neg (by decide)]
  repeat'(first|(refine zhm fun hb=>?_;try exact zab)|refine zUtp ?_|refine zg2 ?_ ?_|intro _)
  exact zrr
 | true=>
  rw[h]at c
  rw[if_pos rfl]
  have l:=QxD h
  have j:=Qq s.up
  have d:=hs.up
  have e:=Zg h
  by_cases b:0<=n/\n<s.topo.nodes.length/\nth s.up n.toNat=false
  ·rw[if_pos b]
   obtain⟨h1,h2,g⟩:=b
   have k:n=(n.toNat:Int):=by omega
   have i:Qo 100000000 (resu s n):=⟨a.par,a.nod,by rw[resu,Xaw];exact a.up,a.que,a.run,a.end',a.rno⟩
   have f:=VD i ⟨e.queue,e.depth⟩
   rw[Qxa]at f
   repeat'(first|(refine zhm fun hb=>?_;try exact zab)|refine zUtp ?_|refine zg2 ?_ ?_|refine zqj Q5 ?_|refine kc (Q4 a) rfl rfl ?_|intro _)
   all_goals first
    | (exfalso;omega)
    | (exfalso;rw[g]at hb;cases hb;done)
    | skip
   exact zr [32,1032,2032,3032,4032,5032] zae zae
  ·rw[if_neg b]
   repeat'(first|(refine zhm fun hb=>?_;try exact zab)|refine zUtp ?_|refine zg2 ?_ ?_|refine zqj Q5 ?_|intro _)
   all_goals first
    | (exfalso;exact b ⟨by omega,by omega,by assumption⟩)
    | skip
   any_goals
    refine zr [] ?_ ?_
    repeat'(first|exact ze3|refine ze2 ?_ ?_|refine ze4 ?_|exact ze5|fail)
    all_goals exact zp rfl
theorem Qt0{s:Qb}{n:Int}(hs:Qo 1048576 s):SS 287 [Qz s,zI n] (Yw s n).1 (Yw s n).2:=by
 refine zMC func287 fun w0 Z O=>?_
 have b:Qo 100000000 s:=hs.mono (by omega)
 have d:=Y3 b
 unfold Yw
 cases h:Qf s with
 | false=>
  rw[h]at d
  rw[if_neg (by decide)]
  repeat'(first|(refine zhm fun hb=>?_;try exact zab)|refine zUro ?_|refine zg2 ?_ ?_|intro _)
  exact zDR
 | true=>
  rw[h]at d
  rw[if_pos rfl]
  have q:=QxD h
  have p:=Qq s.up
  have j:=hs.up
  have k:=Zg h
  have f:=QiD (s:=s) (n:=n)
  by_cases a:0<=n/\n<s.topo.nodes.length
  ·rw[decide_eq_true a.1,decide_eq_true a.2]at f
   cases g:nth s.up n.toNat with
   | false=>
    rw[if_pos ⟨a.1,a.2,rfl⟩]
    obtain⟨l,m⟩:=a
    have c:n=(n.toNat:Int):=by omega
    have o:Qo 100000000 (resu s n):=⟨b.par,b.nod,by rw[resu,Xaw];exact b.up,b.que,b.run,b.end',b.rno⟩
    have e:=Wz o ⟨k.queue,k.depth⟩
    rw[Qxt]at e
    repeat'(first|(refine zhm fun hb=>?_;try exact zab)|(refine Qi 7 23 rfl ?_)|(refine Qi 7 1023 rfl ?_)|(refine Qi 7 2023 rfl ?_)|(refine Qi 7 3023 rfl ?_)|(refine QsA 7 4023 rfl ?_)|refine zUro ?_|refine zg2 ?_ ?_|refine kc (QjA b) rfl rfl ?_|(refine kn [4023,5023] (e) rfl rfl (fun i hi=>?_);try dsimp only at hi)|intro _)
    all_goals first
     | (exfalso;rw[g]at hb;cases hb;done)
     | skip
    show AWp _ _ _ _
    refine Qp 29 rfl ?_
    show AWp _ _ _ _
    refine Qp 1029 rfl ?_
    exact zDR
   | true=>
    rw[if_neg (fun h=>by cases h.2.2)]
    obtain⟨l,m⟩:=a
    have c:n=(n.toNat:Int):=by omega
    repeat'(first|(refine zhm fun hb=>?_;try exact zab)|refine zUro ?_|refine zg2 ?_ ?_|intro _)
    all_goals first
     | (exfalso;rw[g]at hb;cases hb;done)
     | skip
    exact zDR
  ·rw[show(decide (0<=n)&&decide (n<s.topo.nodes.length))=false by simp;omega]at f
   rw[if_neg (fun h=>a ⟨h.1,h.2.1⟩)]
   repeat'(first|(refine zhm fun hb=>?_;try exact zab)|refine zUro ?_|refine zg2 ?_ ?_|intro _)
   exact zDR

def resz(s:Qb)(v:V3):Qb:={ s with lic:=v }
noncomputable def Yx (s:Qb) (v:V3):Option Qb×Int:=
 if Qf s=true/\Qh v=true then if(Jr (resz s v)).isSome=true then(some (Js (resz s v)),0) else(none,9) else(none,1)
theorem Qcy{n:Nat}{s:Qb}{v:V3}(h:Qo n s):Qo n (resz s v):=⟨h.par,h.nod,h.up,h.que,h.run,h.end',h.rno⟩
theorem Qtn{s:Qb}{v:V3}(hs:Qo 1048576 s):SO 183 [Qz s,vecA v] (Yx s v).1 (Yx s v).2:=by
 refine zAC func183 fun w0 Z=>?_
 have b:Qo 100000000 s:=hs.mono (by omega)
 have e:=Qcy (v:=v) b
 have c:=YI b
 have d:=Yu (v:=v)
 have a:=Qdy (e.mono (m:=1000000000) (by omega))
 unfold Yx
 cases h:Qf s with
 | false=>
  rw[h]at c
  rw[if_neg (fun h=>by cases h.1)]
  repeat'(first|(refine zhm fun hb=>?_;try exact zab)|refine zUto ?_|refine zg2 ?_ ?_|intro _)
  exact zrr
 | true=>
  rw[h]at c
  cases i:Qh v with
  | false=>
   rw[i]at d
   rw[if_neg (fun h=>by cases h.2)]
   repeat'(first|(refine zhm fun hb=>?_;try exact zab)|refine zUto ?_|refine zg2 ?_ ?_|intro _)
   exact zrr
  | true=>
   rw[i]at d
   rw[if_pos ⟨rfl,rfl⟩]
   have f:=Zg h
   have c4:=VD e ⟨f.queue,f.depth⟩
   cases g:Jr (resz s v) with
   | none=>
    rw[g]at a
    rw[if_neg (show ¬((none:Option Jn).isSome=true) by decide)]
    repeat'(first|(refine zhm fun hb=>?_;try exact zab)|refine zUto ?_|refine zg2 ?_ ?_|refine kmu (Qer b) ?_|refine kmu a ?_|intro _)
    exact zrr
   | some r=>
    rw[g]at a
    rw[if_pos (show(some r).isSome=true from rfl)]
    repeat'(first|(refine zhm fun hb=>?_;try exact zab)|refine zUto ?_|refine zg2 ?_ ?_|refine kmu (Qer b) ?_|refine kmu a ?_|intro _)
    exact zr [30,1030,2030,3030,4030,5030] zae zae
theorem Qtq{s:Qb}{v:V3}(hs:Qo 1048576 s):SS 288 [Qz s,vecA v] (Yx s v).1 (Yx s v).2:=by
 refine zMC func288 fun w0 Z O=>?_
 have b:Qo 100000000 s:=hs.mono (by omega)
 have e:=Qcy (v:=v) b
 have c:=Y3 b
 have d:=J9 (v:=v)
 have a:=Qhp (e.mono (m:=1000000000) (by omega))
 unfold Yx
 cases h:Qf s with
 | false=>
  rw[h]at c
  rw[if_neg (fun h=>by cases h.1)]
  repeat'(first|(refine zhm fun hb=>?_;try exact zab)|refine zUro ?_|refine zg2 ?_ ?_|intro _)
  exact zDR
 | true=>
  rw[h]at c
  cases j:Qh v with
  | false=>
   rw[j]at d
   rw[if_neg (fun h=>by cases h.2)]
   repeat'(first|(refine zhm fun hb=>?_;try exact zab)|refine zUro ?_|refine zg2 ?_ ?_|intro _)
   exact zDR
  | true=>
   rw[j]at d
   rw[if_pos ⟨rfl,rfl⟩]
   have f:=Zg h
   have k:=Wz e ⟨f.queue,f.depth⟩
   cases g:Jr (resz s v) with
   | none=>
    rw[g]at a
    rw[if_neg (show ¬((none:Option Jn).isSome=true) by decide)]
    repeat'(first|(refine zhm fun hb=>?_;try exact zab)|refine zUro ?_|refine zg2 ?_ ?_|refine kmu (QeN b) ?_|(refine km [18,1018] (a) rfl rfl (fun i hi=>?_);try dsimp only at hi)|intro _)
    exact zDR
   | some r=>
    rw[g]at a
    rw[if_pos (show(some r).isSome=true from rfl)]
    repeat'(first|(refine zhm fun hb=>?_;try exact zab)|refine zUro ?_|refine zg2 ?_ ?_|refine kmu (QeN b) ?_|(refine km [18,1018] (a) rfl rfl (fun i hi=>?_);try dsimp only at hi)|(refine kn [18,1018] (k) rfl rfl (fun i hi=>?_);try dsimp only at hi)|intro _)
    show AWp _ _ _ _
    refine Qp 30 rfl ?_
    show AWp _ _ _ _
    refine Qp 1030 rfl ?_
    exact zDR
theorem QhD{s:Qb}{v:V3}(hs:Qo 1048576 s):∀s',(Yx s v).1=some s'->Qo 1048576 s':=fun s' h=>by
 unfold Yx at h
 split at h
 ·rename_i a
  split at h
  ·cases h
   have b:=Zg a.1
   exact VA ⟨b.queue,b.depth⟩ (Qcy hs) (by have:=Qax a.1;simp only[resz];omega)
  ·cases h
 ·cases h
theorem QhI{s:Qb}{n:Int}(hs:Qo 1048576 s):∀s',(Yw s n).1=some s'->Qo 1048576 s':=fun s' h=>by
 unfold Yw at h
 split at h
 ·rename_i a
  split at h
  ·cases h
   have b:=Zg a
   exact VA ⟨b.queue,b.depth⟩ ⟨hs.par,hs.nod,by rw[resu,Xaw];exact hs.up,hs.que,hs.run,hs.end',hs.rno⟩ (by have:=Qax a;simp only[resu];omega)
  ·cases h
 ·cases h
end
end Go.Proofs.YtkdniahincpmaaaGreat
