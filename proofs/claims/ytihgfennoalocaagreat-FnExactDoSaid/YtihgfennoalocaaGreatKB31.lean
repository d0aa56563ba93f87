/-
  What starts, where there is no room; then for any state; both.
-/
import Derived.Test.YtihgfennoalocaaGreatKB7
import Derived.Test.YtihgfennoalocaaGreatKB30
import Derived.Test.YtihgfennoalocaaGreatKB21
import Derived.Test.YtihgfennoalocaaGreatKB26
set_option maxRecDepth 100000
set_option maxHeartbeats 16000000
namespace Go.Proofs.YtihgfennoalocaaGreat
open Go Go.RowKit Tryz
section
attribute [local irreducible] AWp QJ OpOk ACalls ChA QsOk MCalls NCalls EnC PY

theorem Qr0:Jq ⟨[],[]⟩=false:=by
 cases h:Jq ⟨[],[]⟩ with
 | false=>rfl
 | true=>
  have:=(JT.1 h).len
  simp at this
theorem Qnj:zAc 272 [Y7 zR] [.d (.b false)] []:=by
 refine zAC func272 fun w0 Z=>?_
 have c1:=Qcf (t:=⟨[],[]⟩) (by simp) (by simp)
 rw[Qr0]at c1
 repeat'(first|(refine zhm fun hb=>?_;try exact zab)|refine zUtp ?_|refine zg2 ?_ ?_|intro _|fail)
 exact zrr
theorem Qm4:zAc 266 [Y7 zR] [.d (.b false)] []:=by
 refine zAC func266 fun w0 Z=>?_
 have c1:=Zb (t:=⟨[],[]⟩) (by simp) (by simp)
 rw[Qr0]at c1
 repeat'(first|(refine zhm fun hb=>?_;try exact zab)|refine zUtp ?_|refine zg2 ?_ ?_|intro _|fail)
 exact zrr
theorem Qtt{now depth:Int}{l:List Job}:DC Tryz.prog 289 [Y7 zR,zI now,zL (jobE l),zI depth] [zL [],zL [],.d (.b false)]:=by
 refine zMC func289 fun w0 Z O=>?_
 repeat'(first|(refine zhm fun hb=>?_;try exact zab)|refine zUrp ?_|refine zg2 ?_ ?_|refine zqj Qnj ?_|intro _|fail)
 exact zDR
theorem Qtz{now depth:Int}{l:List Job}:DC Tryz.prog 270 [Y7 zR,zI now,zL (jobE l),zI depth] [zL [],zL [],.d (.b false)]:=by
 refine zMC func270 fun w0 Z O=>?_
 repeat'(first|(refine zhm fun hb=>?_;try exact zab)|refine zUrp ?_|refine zg2 ?_ ?_|refine zqj Qm4 ?_|intro _|fail)
 exact zDR
theorem QaL{s:Qd}(h:JG s=none):JH s=s:=by
 have:WH s=([],[]):=by unfold WH;rw[h]
 unfold JH
 rw[this]
 rfl
theorem Qm1{s:Qd}(hs:Ql 100000000 s)(h:JG s=none):zAc 252 [Qx s] [ZL s 0 1 2 3 4 5] (QbO s):=by
 refine zAC func252 fun w0 Z=>?_
 have c1:=Qcv (hs.mono (m:=1000000000) (by omega))
 rw[h]at c1
 have c3:=Jr hs
 repeat'(first|(refine zhm fun hb=>?_;try exact zab)|refine Qe ?_|(apply zch;exact zcg)|exact zhk|refine zg3 ?_ ?_|refine kmu c1 ?_|refine kmu Qtt ?_|intro _|fail)
 refine Qa (fun(_:Unit)=>⟨66,[(1,.ptr 1 0),(2,.ptr 2 0),(8,.ptr 8 0),(31,zL []),(32,zI 0),(33,zI 0)],[(1,.box 49 (JB s)),(2,.box 49 ctl0),(8,.box 49 (stC s 30 1030 2030 3030 4030 5030)),(30,.row 3 (intE s.topo.parents) true),(1030,.row 225 (Qz s.topo.nodes) true),(2030,.row 4 (Qq s.up) true),(3030,.row 72 (jobE s.queue) true),(4030,.row 170 (runE s.runs) true),(5030,.row 172 (endE s.ends) true)]⟩) (fun _=>True) (fun _=>0) () trivial ?_ ?_
 ·exact zll
 intro _ _
 repeat'(first|(refine zhm fun hb=>?_;try exact zab)|refine Qe ?_|(apply zch;exact zcg)|exact zhk|refine zg3 ?_ ?_|intro _|fail)
 exact zr [30,1030,2030,3030,4030,5030] zae zae
theorem Qlx{s:Qd}(hs:Ql 100000000 s)(h:JG s=none):NCalls Tryz.prog 234 [.agg (Wu s 500000 500001)] [(500000,.row 170 (runE s.runs) false),(500001,.row 172 (endE s.ends) true)] (fun _:Unit=>True) (fun _=>[.agg (Wu s 0 1)]) (fun _=>[(0,.row 170 (runE s.runs) false),(1,.row 172 (endE s.ends) true)]):=by
 refine Ve tt func234 rfl rfl rfl (fun _ _=>rfl) (fun w0 Z O=>?_)
 have c1:=Qf5 (hs.mono (m:=1000000000) (by omega))
 rw[h]at c1
 repeat'(first|(refine zhm fun hb=>?_;try exact zab)|refine zUtp ?_|refine zg2 ?_ ?_|(refine km [500000,500001] (c1) rfl rfl (fun i hi=>?_);try dsimp only at hi)|refine kmu Qtz ?_|intro _|fail)
 refine Qa (fun(_:Unit)=>⟨62,[(1,.ptr 1 0),(2,.ptr 2 0),(29,zL []),(30,zI 0),(31,zI 0)],[(1,.box 49 (Wu s 500000 500001)),(2,.box 49 ctl0),(500000,.row 170 (runE s.runs) false),(500001,.row 172 (endE s.ends) true)]⟩) (fun _=>True) (fun _=>0) () trivial ?_ ?_
 ·exact zll
 intro _ _
 repeat'(first|(refine zhm fun hb=>?_;try exact zab)|refine zUrp ?_|refine zg2 ?_ ?_|intro _|fail)
 show AWp _ _ _ _
 apply Qt
 refine zn () [500000,500001] (by exact trivial) ?_ ?_
 all_goals exact zae
structure Qlb (s:Qd):Prop where
 queue:Jm s.queue
 depth:0<=s.depth/\s.depth<=60
theorem W7{s:Qd}(hs:Ql 100000000 s)(h:Qlb s):zAc 252 [Qx s] [ZL (JH s) 0 1 2 3 4 5] (QbO (JH s)):=by
 cases hr:JG s with
 | some r=>exact Qow hs ⟨hr,h.queue,h.depth⟩
 | none=>rw[QaL hr];exact Qm1 hs hr
theorem Wi{s:Qd}(hs:Ql 100000000 s)(h:Qlb s):NCalls Tryz.prog 234 [.agg (Wu s 500000 500001)] [(500000,.row 170 (runE s.runs) false),(500001,.row 172 (endE s.ends) true)] (fun _:Unit=>True) (fun _=>[.agg (Wu (JH s) 0 1)]) (fun _=>[(0,.row 170 (runE (JH s).runs) false),(1,.row 172 (endE s.ends) true)]):=by
 cases hr:JG s with
 | some r=>exact Qlv hs ⟨hr,h.queue,h.depth⟩
 | none=>rw[QaL hr];exact Qlx hs hr
theorem W8{s:Qd}(h:Qlb s)(hs:Ql 1048576 s)(hr:s.runs.length<=1000000):Ql 1048576 (JH s):=by
 cases hq:JG s with
 | some r=>exact QhI ⟨hq,h.queue,h.depth⟩ hs hr
 | none=>rw[QaL hq];exact hs
theorem VL{s:Qd}(h:Qp s=true):Qlb s:=⟨(pB_t.1 h).jobs.left,(pB_t.1 h).depth⟩
@[reducible] def stR (o:Option Qd) (c:Int):List AV:=match o with
 | none=>[.agg ctl0,zI c]
 | some s=>[ZL s 0 1 2 3 4 5,zI c]
@[reducible] def stB (o:Option Qd):List (Nat×AO):=match o with
 | none=>[]
 | some s=>QbO s
abbrev SO(f:FuncId)(args:List AV)(o:Option Qd)(c:Int):Prop:=zAc f args (stR o c) (stB o)
abbrev SS(f:FuncId)(args:List AV)(o:Option Qd)(c:Int):Prop:=DC Tryz.prog f args [Qx (o.getD zS),zI c]
def resu(s:Qd)(n:Int):Qd:={ s with up:=s.up.set n.toNat true }
noncomputable def YH (s:Qd) (n:Int):Option Qd×Int:=
 if Qp s=true then if 0<=n/\n<s.topo.nodes.length/\nth s.up n.toNat=false then(some (JH (resu s n)),0) else(none,8) else(none,1)
theorem QaT(l:List Bool)(k:Nat)(x:Bool):(Qq l).set k [.b x]=Qq (l.set k x):=by simp[Qq,List.map_set]
@[reducible] def Qug (s:Qd) (u:List (List D)):AV:=.agg [zL (intE s.topo.parents),zL (Qz s.topo.nodes),zL u,zI s.lic.a,zI s.lic.b,zI s.lic.c,zI s.depth,zI s.now,zL (jobE s.queue),zL (runE s.runs),zL (endE s.ends)]
@[reducible] def Qtu (s:Qd) (u:List (List D)) (q1 q2:Nat):List AV:=[zL (intE s.topo.parents),zL (Qz s.topo.nodes),zL u,zI s.lic.a,zI s.lic.b,zI s.lic.c,zI s.depth,zI s.now,zL (jobE s.queue),.row q1,.row q2]
theorem QuG{s:Qd}{n:Int}:Qx (resu s n)=Qug s ((Qq s.up).set n.toNat [.b true]):=by rw[QaT];rfl
theorem Qt9{s:Qd}{n:Int}{q1 q2:Nat}:Wu (resu s n) q1 q2=Qtu s ((Qq s.up).set n.toNat [.b true]) q1 q2:=by rw[QaT];rfl
theorem Qu7{s:Qd}(h:Qp s=true):s.up.length=s.topo.nodes.length:=(QbS h).up
theorem Qqm{s:Qd}{n:Int}(hs:Ql 1048576 s):SO 203 [Qx s,zI n] (YH s n).1 (YH s n).2:=by
 refine zAC func203 fun w0 Z=>?_
 have hm:Ql 100000000 s:=hs.mono (by omega)
 have c1:=Yo hm
 unfold YH
 cases h:Qp s with
 | false=>
  rw[h]at c1
  rw[if_neg (by decide)]
  repeat'(first|(refine zhm fun hb=>?_;try exact zab)|refine zUtp ?_|refine zg2 ?_ ?_|intro _|fail)
  exact zrr
 | true=>
  rw[h]at c1
  rw[if_pos rfl]
  have hup:=Qu7 h
  have hbl:=Qo s.up
  have hbl2:=hs.up
  have hq:=VL h
  by_cases hn:0<=n/\n<s.topo.nodes.length/\nth s.up n.toNat=false
  ·rw[if_pos hn]
   obtain⟨h1,h2,h3⟩:=hn
   have hnn:n=(n.toNat:Int):=by omega
   have hR:Ql 100000000 (resu s n):=⟨hm.par,hm.nod,by rw[resu,Xak];exact hm.up,hm.que,hm.run,hm.end',hm.rno⟩
   have c2:=W7 hR ⟨hq.queue,hq.depth⟩
   rw[QuG]at c2
   repeat'(first|(refine zhm fun hb=>?_;try exact zab)|refine zUtp ?_|refine zg2 ?_ ?_|refine zqj QX ?_|refine kc (Jr hm) rfl rfl ?_|intro _|fail)
   all_goals first
    | (exfalso;omega)
    | (exfalso;rw[h3]at hb;cases hb;done)
    | skip
   exact zr [32,1032,2032,3032,4032,5032] zae zae
  ·rw[if_neg hn]
   repeat'(first|(refine zhm fun hb=>?_;try exact zab)|refine zUtp ?_|refine zg2 ?_ ?_|refine zqj QX ?_|intro _|fail)
   all_goals first
    | (exfalso;exact hn ⟨by omega,by omega,by assumption⟩)
    | skip
   any_goals
    refine zr [] ?_ ?_
    repeat'(first|exact ze3|refine ze2 ?_ ?_|refine ze4 ?_|exact ze5|fail)
    all_goals exact zp rfl
theorem QqP{s:Qd}{n:Int}(hs:Ql 1048576 s):SS 185 [Qx s,zI n] (YH s n).1 (YH s n).2:=by
 refine zMC func185 fun w0 Z O=>?_
 have hm:Ql 100000000 s:=hs.mono (by omega)
 have c1:=YL hm
 unfold YH
 cases h:Qp s with
 | false=>
  rw[h]at c1
  rw[if_neg (by decide)]
  repeat'(first|(refine zhm fun hb=>?_;try exact zab)|refine zUro ?_|refine zg2 ?_ ?_|intro _|fail)
  exact zDR
 | true=>
  rw[h]at c1
  rw[if_pos rfl]
  have hup:=Qu7 h
  have hbl:=Qo s.up
  have hbl2:=hs.up
  have hq:=VL h
  have c3:=Qg9 (s:=s) (n:=n)
  by_cases hn0:0<=n/\n<s.topo.nodes.length
  ·rw[decide_eq_true hn0.1,decide_eq_true hn0.2]at c3
   cases h3:nth s.up n.toNat with
   | false=>
    rw[if_pos ⟨hn0.1,hn0.2,rfl⟩]
    obtain⟨h1,h2⟩:=hn0
    have hnn:n=(n.toNat:Int):=by omega
    have hR:Ql 100000000 (resu s n):=⟨hm.par,hm.nod,by rw[resu,Xak];exact hm.up,hm.que,hm.run,hm.end',hm.rno⟩
    have c2:=Wi hR ⟨hq.queue,hq.depth⟩
    rw[Qt9]at c2
    repeat'(first|(refine zhm fun hb=>?_;try exact zab)|(refine Qi 7 23 rfl ?_)|(refine Qi 7 1023 rfl ?_)|(refine Qi 7 2023 rfl ?_)|(refine Qi 7 3023 rfl ?_)|(refine Qqy 7 4023 rfl ?_)|refine zUro ?_|refine zg2 ?_ ?_|refine kc (Qhr hm) rfl rfl ?_|(refine kn [4023,5023] (c2) rfl rfl (fun i hi=>?_);try dsimp only at hi)|intro _|fail)
    all_goals first
     | (exfalso;rw[h3]at hb;cases hb;done)
     | skip
    show AWp _ _ _ _
    refine Qs 29 rfl ?_
    show AWp _ _ _ _
    refine Qs 1029 rfl ?_
    exact zDR
   | true=>
    rw[if_neg (fun h=>by cases h.2.2)]
    obtain⟨h1,h2⟩:=hn0
    have hnn:n=(n.toNat:Int):=by omega
    repeat'(first|(refine zhm fun hb=>?_;try exact zab)|refine zUro ?_|refine zg2 ?_ ?_|intro _|fail)
    all_goals first
     | (exfalso;rw[h3]at hb;cases hb;done)
     | skip
    exact zDR
  ·rw[show(decide (0<=n)&&decide (n<s.topo.nodes.length))=false by simp;omega]at c3
   rw[if_neg (fun h=>hn0 ⟨h.1,h.2.1⟩)]
   repeat'(first|(refine zhm fun hb=>?_;try exact zab)|refine zUro ?_|refine zg2 ?_ ?_|intro _|fail)
   exact zDR

def resz(s:Qd)(v:V3):Qd:={ s with lic:=v }
noncomputable def YF (s:Qd) (v:V3):Option Qd×Int:=
 if Qp s=true/\Qh v=true then if(JG (resz s v)).isSome=true then(some (JH (resz s v)),0) else(none,9) else(none,1)
theorem Qbp{n:Nat}{s:Qd}{v:V3}(h:Ql n s):Ql n (resz s v):=⟨h.par,h.nod,h.up,h.que,h.run,h.end',h.rno⟩
theorem QpD{s:Qd}{v:V3}(hs:Ql 1048576 s):SO 204 [Qx s,vecA v] (YF s v).1 (YF s v).2:=by
 refine zAC func204 fun w0 Z=>?_
 have hm:Ql 100000000 s:=hs.mono (by omega)
 have hR:=Qbp (v:=v) hm
 have c1:=Yo hm
 have c2:=Yh (v:=v)
 have c3:=Qcv (hR.mono (m:=1000000000) (by omega))
 unfold YF
 cases h:Qp s with
 | false=>
  rw[h]at c1
  rw[if_neg (fun h=>by cases h.1)]
  repeat'(first|(refine zhm fun hb=>?_;try exact zab)|refine zUto ?_|refine zg2 ?_ ?_|intro _|fail)
  exact zrr
 | true=>
  rw[h]at c1
  cases hv:Qh v with
  | false=>
   rw[hv]at c2
   rw[if_neg (fun h=>by cases h.2)]
   repeat'(first|(refine zhm fun hb=>?_;try exact zab)|refine zUto ?_|refine zg2 ?_ ?_|intro _|fail)
   exact zrr
  | true=>
   rw[hv]at c2
   rw[if_pos ⟨rfl,rfl⟩]
   have hq:=VL h
   have c4:=W7 hR ⟨hq.queue,hq.depth⟩
   cases hr:JG (resz s v) with
   | none=>
    rw[hr]at c3
    rw[if_neg (show ¬((none:Option Jy).isSome=true) by decide)]
    repeat'(first|(refine zhm fun hb=>?_;try exact zab)|refine zUto ?_|refine zg2 ?_ ?_|refine kmu (Qdh hm) ?_|refine kmu c3 ?_|intro _|fail)
    exact zrr
   | some r=>
    rw[hr]at c3
    rw[if_pos (show(some r).isSome=true from rfl)]
    repeat'(first|(refine zhm fun hb=>?_;try exact zab)|refine zUto ?_|refine zg2 ?_ ?_|refine kmu (Qdh hm) ?_|refine kmu c3 ?_|intro _|fail)
    exact zr [30,1030,2030,3030,4030,5030] zae zae
theorem Qro{s:Qd}{v:V3}(hs:Ql 1048576 s):SS 186 [Qx s,vecA v] (YF s v).1 (YF s v).2:=by
 refine zMC func186 fun w0 Z O=>?_
 have hm:Ql 100000000 s:=hs.mono (by omega)
 have hR:=Qbp (v:=v) hm
 have c1:=YL hm
 have c2:=JV (v:=v)
 have c3:=Qf5 (hR.mono (m:=1000000000) (by omega))
 unfold YF
 cases h:Qp s with
 | false=>
  rw[h]at c1
  rw[if_neg (fun h=>by cases h.1)]
  repeat'(first|(refine zhm fun hb=>?_;try exact zab)|refine zUro ?_|refine zg2 ?_ ?_|intro _|fail)
  exact zDR
 | true=>
  rw[h]at c1
  cases hv:Qh v with
  | false=>
   rw[hv]at c2
   rw[if_neg (fun h=>by cases h.2)]
   repeat'(first|(refine zhm fun hb=>?_;try exact zab)|refine zUro ?_|refine zg2 ?_ ?_|intro _|fail)
   exact zDR
  | true=>
   rw[hv]at c2
   rw[if_pos ⟨rfl,rfl⟩]
   have hq:=VL h
   have c4:=Wi hR ⟨hq.queue,hq.depth⟩
   cases hr:JG (resz s v) with
   | none=>
    rw[hr]at c3
    rw[if_neg (show ¬((none:Option Jy).isSome=true) by decide)]
    repeat'(first|(refine zhm fun hb=>?_;try exact zab)|refine zUro ?_|refine zg2 ?_ ?_|refine kmu (Qdn hm) ?_|(refine km [18,1018] (c3) rfl rfl (fun i hi=>?_);try dsimp only at hi)|intro _|fail)
    exact zDR
   | some r=>
    rw[hr]at c3
    rw[if_pos (show(some r).isSome=true from rfl)]
    repeat'(first|(refine zhm fun hb=>?_;try exact zab)|refine zUro ?_|refine zg2 ?_ ?_|refine kmu (Qdn hm) ?_|(refine km [18,1018] (c3) rfl rfl (fun i hi=>?_);try dsimp only at hi)|(refine kn [18,1018] (c4) rfl rfl (fun i hi=>?_);try dsimp only at hi)|intro _|fail)
    show AWp _ _ _ _
    refine Qs 30 rfl ?_
    show AWp _ _ _ _
    refine Qs 1030 rfl ?_
    exact zDR
theorem QfU{s:Qd}{v:V3}(hs:Ql 1048576 s):∀s',(YF s v).1=some s'->Ql 1048576 s':=fun s' h=>by
 unfold YF at h
 split at h
 ·rename_i h1
  split at h
  ·cases h
   have hq:=VL h1.1
   exact W8 ⟨hq.queue,hq.depth⟩ (Qbp hs) (by have:=XR h1.1;simp only[resz];omega)
  ·cases h
 ·cases h
theorem Qge{s:Qd}{n:Int}(hs:Ql 1048576 s):∀s',(YH s n).1=some s'->Ql 1048576 s':=fun s' h=>by
 unfold YH at h
 split at h
 ·rename_i h1
  split at h
  ·cases h
   have hq:=VL h1
   exact W8 ⟨hq.queue,hq.depth⟩ ⟨hs.par,hs.nod,by rw[resu,Xak];exact hs.up,hs.que,hs.run,hs.end',hs.rno⟩ (by have:=XR h1;simp only[resu];omega)
  ·cases h
 ·cases h
end
end Go.Proofs.YtihgfennoalocaaGreat
