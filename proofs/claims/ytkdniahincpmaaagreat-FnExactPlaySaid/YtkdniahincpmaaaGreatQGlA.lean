/-
  The law's own functions over states: the size, the copy, equality with itself.
-/
import Derived.Test.YtkdniahincpmaaaGreatQB11
set_option maxRecDepth 100000
set_option maxHeartbeats 16000000
namespace Go.Proofs.YtkdniahincpmaaaGreat
open Go Go.RowKit Tryz
section

theorem WW(p:Nat){X:Cx}{c:Code}{Q:Exit->AS->Prop}{σ:AS}{e:TypeId}{es:List (List D)}{dp:Bool}(hp:Ql σ.ob p=some (.row e es dp))(h:AWp X c Q ⟨σ.nt,σ.sl,(p,.row e es false)::YT p σ.ob⟩):AWp X c Q σ:=by
 intro a w o
 obtain⟨m,i⟩:=o
 obtain⟨y,j,f,d⟩:=i.ent hp
 have g:=i.mem.ok y j
 unfold EntOk at g
 rw[d]at g
 obtain⟨z,us,q,r,s,t,u,v,k6,l⟩:=g
 have k:Qfi X.P X.w0 X.Z X.O m w w p ⟨p,.row e es false,y.val,y.fs⟩ (fun _=>true):=
  ⟨i.mem,fun _ _=>rfl,fun _ x hx e=>by
    have:=i.mem.ent_unique hx j (e.trans f.symm)
    subst this
    exact⟨e.symm,rfl,by rw[d];rfl,by rw[d];rfl⟩,rfl,rfl,rfl,Xaj _,
   fun b hb hno=>rfl,fun b hb=>.inr ⟨y,j,f,by
   rcases hb with hb|⟨hd,_⟩
   ·exact .inl hb
   ·cases hd⟩,rfl,f▸i.mem.fix y j⟩
 have n:=i.swap_keep k (by
  unfold EntOk
  exact⟨z,us,q,r,s,t,u,fun _ b hb=>k.imm_fs j f (by rw[d];rfl) v (fun hd=>(l hd).2.1) (fun hd b hb hq=>by
   rcases hq with hq|⟨hq,_⟩
   ·exact((l hd).2.1 b hb).2.2 hq
   ·cases hq) b hb,k6,fun h=>by cases h⟩) (fun hd=>by cases hd)
 exact h a w ⟨_,n⟩
theorem QmK{X:Cx}{σ:AS}{o:Oper}{K:AS->Prop}{t:Nat}{T e:TypeId}{x y:Operand}{p q:Int}{n:Nat}{zd:List D}[te:TI X.P e](ho:o.op=.makeSlice T x y)(hd:o.dst=some t)(hT:JD X T=some e)(hx:σ.ev x=zI p)(hp:p=(n:Int))(hy:σ.ev y=zI q)(hq:q=(n:Int))(hb:n<=1099511627776)
  (hk:VS te) (hzd:(YY (VB te.zero)).bind (fun l=>Z2 l some)=some zd) (hfl:zd.all D.flat=true) (hlz:Nat.beq zd.length te.size=true) (hf:YU X.fre t σ.ob=true) (ht:Nat.blt t σ.nt=true)
  (hK:K ⟨σ.nt,(t,.row t)::σ.sl,(t,.row e (List.replicate n zd) true)::YT t σ.ob⟩):OpOk X o σ K:=
 Qct (ao:=.row e (List.replicate n zd) true) hd ht hf (fun a w en h1=>by
  have hzd:YY (VB te.zero)=some zd:=by
   cases v:YY (VB te.zero) with
   | none=>rw[v]at hzd;cases hzd
   | some l=>rw[v,Xbc,Xd]at hzd;exact hzd
  subst hp;subst hq
  have hu:=QO hT
  obtain⟨i,q1,q2,z,q4⟩:=te.parts
  have f:=Jp hk.pos
  have k:te.zero.cells.size=te.size:=(Qg _ _).1 hk.zero
  have d:=Zj te.zero.cells n (by omega)
  obtain⟨F,⟨e1,_⟩,_⟩:=QT h1 hx
  obtain⟨G,⟨e2,_⟩,_⟩:=QT h1 hy
  obtain⟨F',r,k2⟩:=YB (w:=w) (en:=en) (I:=IM X en w) hzd (YL te.zero.cells.toList)
  have hF:F'=[]:=JF r hfl
  subst hF
  have m:zd.length=te.size:=(Qg _ _).1 hlz
  have j:te.bytes<=200:=XaL hk.bytes
  have u:=run_make (P:=X.P) w T e i te.zero hu q1 q2 .i64 .i64 n n (by omega) (Xbf _) (by
   rw[q4]
   have:te.bytes*n<=200*1099511627776:=Nat.mul_le_mul j hb
   have h2:((te.bytes*n:Nat):Int)<=281474976710656:=by omega
   rwa [XcA]at h2) (by omega)
  simp only[XbS]at u
  refine⟨.slice (some ⟨w.heap.size,0,none⟩) n n,[],w.alloc (.cells (madeCells te.zero.cells (n*i.size)) e),?_,Ext.alloc_ w _,fun en' he=>⟨_,he,rfl,rfl,rfl⟩,fun b hb=>?_,fun hI hTr=>?_,fun _=>rfl⟩
  ·simp only[execOp,ho,e1,e2,Sem.run_bind,u,Result.andThen]
   rfl
  ·simp only[blk,Xak]at hb
   exact XbU hb
  ·unfold EntOk
   have s:(madeCells te.zero.cells (n*i.size)).toList=(List.replicate n te.zero.cells.toList).flatten:=by rw[z,<-k];exact d
   refine⟨te.size,(List.replicate n te.zero.cells.toList).flatten,te.sized,f,?_,fun el hel=>?_,QI (Ext.alloc_ w _).size _ _ _ (Ys r n) (by simp),by simp,fun g hg=>?_,fun _=>⟨by simp,by simp,NstL.nilE (QI (Ext.alloc_ w _).size _ _ _ (Ys r n) (by simp))⟩⟩
   ·rw[Xbt]
    have h:(madeCells te.zero.cells (n*i.size)).size=n*te.size:=by rw[size_madeCells,z]
    have c:(List.replicate n te.zero.cells.toList).flatten.length=n*te.size:=by rw[<-s,Xax,h]
    refine⟨c,.inr ⟨w.heap.size,n,_,rfl,Xae _,heap_alloc_new w _,Xaj _,by unfold maxLen;omega,h,?_⟩⟩
    rw[s,<-c]
    exact Xal
   ·rw[Xbs hel];exact m
   ·simp only[blk,Xak]at hg
    subst hg
    exact .inr h1.mem.size) hK
attribute [local irreducible] AWp QM OpOk ACalls ChA QsOk MCalls EnC PY
theorem Qao{α:Type}{f:α->List D}{p:α->Prop}:∀{es:List (List D)},(∀q∈es,∃r,q=f r/\p r)->∃l:List α,es=l.map f/\∀r∈l,p r
 | [],_=>⟨[],rfl,by simp⟩
 | e::es,h=>by
  obtain⟨r,rfl,h1⟩:=h _ Xaa
  obtain⟨l,rfl,h2⟩:=Qao (es:=es) fun q hq=>h q (Xad _ hq)
  refine⟨r::l,rfl,fun s hs=>?_⟩
  rcases Xai.1 hs with rfl|hs
  ·exact h1
  ·exact h2 s hs
@[reducible] def Qr8 (n:Qar):AV:=.agg [zI n.leaf,zI n.cap.a,zI n.cap.b,zI n.cap.c]
@[reducible] def runA (r:Run):AV:=.agg [zI r.job.id,zI r.job.prio,zI r.job.nodes,zI r.job.need.a,zI r.job.need.b,zI r.job.need.c,zI r.job.lic.a,zI r.job.lic.b,zI r.job.lic.c,zI r.job.wall,zI r.job.level,zI r.at',zL (intE r.nodes)]
@[reducible] def endA (e:QbO):AV:=.agg [zI e.id,zI e.at',zI e.why]
theorem Qj8{l:List Run}{j:Nat}(h:j<l.length):(runE l)[j]?=some [.n .i64 (nth l j).job.id,.n .i64 (nth l j).job.prio,.n .i64 (nth l j).job.nodes,.n .i64 (nth l j).job.need.a,.n .i64 (nth l j).job.need.b,.n .i64 (nth l j).job.need.c,.n .i64 (nth l j).job.lic.a,.n .i64 (nth l j).job.lic.b,.n .i64 (nth l j).job.lic.c,.n .i64 (nth l j).job.wall,.n .i64 (nth l j).job.level,.n .i64 (nth l j).at',.sl (intE (nth l j).nodes)]:=QcG h
theorem Xj(l:List Int):(intE l).length=l.length:=Qc l
theorem Qgs{l:List Int}{x:Int}(h:l.length<=9223372036854775807)(hx:0<=x/\x<=1048576):SC Tryz.prog 72 (zL (intE l)) x (l.length<=1048576):=by
 refine zMC func72 fun w0 Z O=>?_
 have hl:=Qc l
 repeat'(first|(refine zhm fun hb=>?_;try exact zab)|refine zUtp ?_|refine zg2 ?_ ?_|intro _)
 ·exact zm (-1) [] (by exact⟨by omega,fun h=>by omega⟩) zae zae zae
 ·exact zm (x-l.length) [] (by exact⟨by omega,fun _=>by omega⟩) zae zae zae
theorem Qod{l:List Qar}{x:Int}(h:l.length<=9223372036854775807)(hx:0<=x/\x<=1048576):SC Tryz.prog 223 (zL (Qr l)) x (l.length<=1048576):=by
 refine zMC func223 fun w0 Z O=>?_
 have hl:=Qw l
 repeat'(first|(refine zhm fun hb=>?_;try exact zab)|refine zUtp ?_|refine zg2 ?_ ?_|intro _)
 ·exact zm (-1) [] (by exact⟨by omega,fun h=>by omega⟩) zae zae zae
 ·exact zm (x-l.length) [] (by exact⟨by omega,fun _=>by omega⟩) zae zae zae
theorem Qq3{l:List Bool}{x:Int}(h:l.length<=9223372036854775807)(hx:0<=x/\x<=1048576):SC Tryz.prog 136 (zL (Qk l)) x (l.length<=1048576):=by
 refine zMC func136 fun w0 Z O=>?_
 have hl:=Qq l
 repeat'(first|(refine zhm fun hb=>?_;try exact zab)|refine zUtp ?_|refine zg2 ?_ ?_|intro _)
 ·exact zm (-1) [] (by exact⟨by omega,fun h=>by omega⟩) zae zae zae
 ·exact zm (x-l.length) [] (by exact⟨by omega,fun _=>by omega⟩) zae zae zae
theorem QsF{l:List Job}{x:Int}(h:l.length<=9223372036854775807)(hx:0<=x/\x<=1048576):SC Tryz.prog 137 (zL (jobE l)) x (l.length<=1048576):=by
 refine zMC func137 fun w0 Z O=>?_
 have hl:=Qj l
 repeat'(first|(refine zhm fun hb=>?_;try exact zab)|refine zUtp ?_|refine zg2 ?_ ?_|intro _)
 ·exact zm (-1) [] (by exact⟨by omega,fun h=>by omega⟩) zae zae zae
 ·exact zm (x-l.length) [] (by exact⟨by omega,fun _=>by omega⟩) zae zae zae
theorem Qsg{l:List QbO}{x:Int}(h:l.length<=9223372036854775807)(hx:0<=x/\x<=1048576):SC Tryz.prog 139 (zL (endE l)) x (l.length<=1048576):=by
 refine zMC func139 fun w0 Z O=>?_
 have hl:=QJ l
 repeat'(first|(refine zhm fun hb=>?_;try exact zab)|refine zUtp ?_|refine zg2 ?_ ?_|intro _)
 ·exact zm (-1) [] (by exact⟨by omega,fun h=>by omega⟩) zae zae zae
 ·exact zm (x-l.length) [] (by exact⟨by omega,fun _=>by omega⟩) zae zae zae
theorem Qvd{r:Run}{x:Int}(h:r.nodes.length<=9223372036854775807)(hx:0<=x/\x<=1048576):SC Tryz.prog 224 (runA r) x (r.nodes.length<=1048576):=by
 refine zMC func224 fun w0 Z O=>?_
 repeat'(first|(refine zhm fun hb=>?_;try exact zab)|refine zUto ?_|refine zg2 ?_ ?_|(refine km [] (Qgs (l:=r.nodes) (x:=x) h hx) rfl rfl (fun i hi=>?_);try dsimp only at hi)|intro _)
 ·exact zm (-1) [] (by exact⟨by omega,fun h=>by omega⟩) zae zae zae
 ·exact zm i [] (by exact⟨hi.1,hi.2⟩) zae zae zae
theorem Qso{l:List Run}{x:Int}(h:l.length<=9223372036854775807)(hr:∀j,j<l.length->(nth l j).nodes.length<=9223372036854775807)(hx:0<=x/\x<=1048576):SC Tryz.prog 138 (zL (runE l)) x (l.length<=1048576/\∀j,j<l.length->(nth l j).nodes.length<=1048576):=by
 refine zMC func138 fun w0 Z O=>?_
 have hl:=Qe l
 repeat'(first|(refine zhm fun hb=>?_;try exact zab)|refine zUtp ?_|refine zg2 ?_ ?_|intro _)
 ·exact zm (-1) [] (by exact⟨by omega,fun h=>by omega⟩) zae zae zae
 ·refine Qa (fun(k:Nat×Int)=>⟨27,[(0,zL (runE l)),(1,zI k.2),(5,zI k.1)],[]⟩) (fun k=>k.1<=l.length/\(0<=k.2/\k.2<=x-l.length)/\∀j,j<k.1->(nth l j).nodes.length<=1048576) (fun k=>l.length-k.1) (0,x-l.length) (by exact⟨Xae _,⟨by omega,Xbf _⟩,fun j hj=>absurd hj (Xaq _)⟩) ?_ ?_
  ·exact zll
  ·rintro ⟨n,y⟩ ⟨b,c,a⟩
   dsimp only at b c a ⊢
   by_cases d:n<l.length
   ·repeat'(first|(refine zhm fun hb=>?_;try exact zab)|refine zUtp ?_|refine zg2 ?_ ?_|(refine km [] (Qvd (r:=nth l n) (x:=y) (hr n d) (by omega)) rfl rfl (fun i hi=>?_);try dsimp only at hi)|intro _)
    ·exact zm (-1) [] (by exact⟨by omega,fun h=>by omega⟩) zae zae zae
    ·refine⟨(n+1,i),⟨by omega,by dsimp only;omega,fun j hj=>?_⟩,by dsimp only;omega,?_⟩
     ·by_cases e:j=n
      ·subst e;exact hi.2 (by omega)
      ·exact a j (by dsimp only at hj;omega)
     exact zll
   ·repeat'(first|(refine zhm fun hb=>?_;try exact zab)|refine zUtp ?_|refine zg2 ?_ ?_|intro _)
    exact zm y [] (by exact⟨by omega,fun _=>⟨by omega,fun j hj=>a j (by omega)⟩⟩) zae zae zae
theorem Qsx{t:QX}{x:Int}(h1:t.parents.length<=9223372036854775807)(h2:t.nodes.length<=9223372036854775807)(hx:0<=x/\x<=1048576):SC Tryz.prog 135 (YW t) x (t.parents.length<=1048576/\t.nodes.length<=1048576):=by
 refine zMC func135 fun w0 Z O=>?_
 repeat'(first|(refine zhm fun hb=>?_;try exact zab)|refine zUto ?_|refine zg2 ?_ ?_|(refine km [] (Qgs (l:=t.parents) (x:=x) h1 hx) rfl rfl (fun i hi=>?_);try dsimp only at hi)|(refine km [] (Qod (l:=t.nodes) h2 (by omega)) rfl rfl (fun i hi=>?_);try dsimp only at hi)|intro _)
 ·exact zm (-1) [] (by exact⟨by omega,fun h=>by omega⟩) zae zae zae
 ·exact zm (-1) [] (by exact⟨by omega,fun h=>by omega⟩) zae zae zae
 ·rename_i i0 a _
  exact zm i [] (by exact⟨by omega,fun _=>⟨a.2 (by omega),hi.2 (by omega)⟩⟩) zae zae zae
theorem QdK{s:Qb}{x:Int}(h:Qo 9223372036854775807 s)(hx:0<=x/\x<=1048576):SC Tryz.prog 69 (Qz s) x (Qo 1048576 s):=by
 refine zMC func69 fun w0 Z O=>?_
 repeat'(first|(refine zhm fun hb=>?_;try exact zab)|refine zUto ?_|refine zg2 ?_ ?_|(refine km [] (Qsx (t:=s.topo) (x:=x) h.par h.nod hx) rfl rfl (fun i hi=>?_);try dsimp only at hi)|(refine km [] (Qq3 (l:=s.up) h.up (by omega)) rfl rfl (fun i hi=>?_);try dsimp only at hi)|(refine km [] (QsF (l:=s.queue) h.que (by omega)) rfl rfl (fun i hi=>?_);try dsimp only at hi)|(refine km [] (Qso (l:=s.runs) h.run h.rno (by omega)) rfl rfl (fun i hi=>?_);try dsimp only at hi)|(refine km [] (Qsg (l:=s.ends) h.end' (by omega)) rfl rfl (fun i hi=>?_);try dsimp only at hi)|intro _)
 ·exact zm (-1) [] (by exact⟨by omega,fun h=>by omega⟩) zae zae zae
 ·exact zm (-1) [] (by exact⟨by omega,fun h=>by omega⟩) zae zae zae
 ·exact zm (-1) [] (by exact⟨by omega,fun h=>by omega⟩) zae zae zae
 ·exact zm (-1) [] (by exact⟨by omega,fun h=>by omega⟩) zae zae zae
 ·exact zm (-1) [] (by exact⟨by omega,fun h=>by omega⟩) zae zae zae
 ·rename_i i0 a _ i1 c _ i2 d _ i3 b _
  exact zm i [] (by exact⟨by omega,fun _=>⟨(a.2 (by omega)).1,(a.2 (by omega)).2,c.2 (by omega),d.2 (by omega),(b.2 (by omega)).1,hi.2 (by omega),(b.2 (by omega)).2⟩⟩) zae zae zae
theorem QbR{x:V3}:zAc 143 [vecA x] [vecA x] []:=by
 refine zAC func143 fun w0 Z=>?_
 repeat'(first|(refine zhm fun hb=>?_;try exact zab)|refine zUto ?_|refine zg2 ?_ ?_|intro _)
 exact zrr
theorem Qle{x:Qar}:zAc 282 [Qr8 x] [Qr8 x] []:=by
 refine zAC func282 fun w0 Z=>?_
 repeat'(first|(refine zhm fun hb=>?_;try exact zab)|refine zUto ?_|refine zg2 ?_ ?_|refine kc (QbR (x:=x.cap)) rfl rfl ?_|intro _)
 exact zrr
theorem Qe5{x:Job}:zAc 226 [jobA x] [jobA x] []:=by
 refine zAC func226 fun w0 Z=>?_
 repeat'(first|(refine zhm fun hb=>?_;try exact zab)|refine zUto ?_|refine zg2 ?_ ?_|refine kc (QbR (x:=x.need)) rfl rfl ?_|refine kc (QbR (x:=x.lic)) rfl rfl ?_|intro _)
 exact zrr
theorem Qrw{x:QbO}:zAc 228 [endA x] [endA x] []:=by
 refine zAC func228 fun w0 Z=>?_
 repeat'(first|(refine zhm fun hb=>?_;try exact zab)|refine zUto ?_|refine zg2 ?_ ?_|intro _)
 exact zrr
theorem QgO{l:List Int}(h:l.length<=1048576):DC Tryz.prog 76 [zL (intE l)] [zL (intE l)]:=by
 refine zMC func76 fun w0 Z O=>?_
 have hl:=Qc l
 repeat'(first|(refine zhm fun hb=>?_;try exact zab)|refine zUtp ?_|refine zg2 ?_ ?_|intro _)
 refine Qa (fun(i:Nat)=>⟨22,[(0,zL (intE l)),(3,.row 7),(4,zI i)],[(7,.row 3 (intE (cpyL l 0 i)) true)]⟩) (fun i=>i<=l.length) (fun i=>l.length-i) 0 (by exact Xae _) ?_ ?_
 ·refine⟨rfl,?_,?_,rfl⟩
  repeat'(first|exact ze3|refine ze2 ?_ ?_|refine ze4 ?_|exact ze5|fail)
  all_goals exact zp (by first|rfl|(rw[JV];exact(List.map_replicate ..).symm)|(rw[JV];simp[intE]))
 ·intro i c
  have d:(intE (cpyL l 0 i)).length=l.length:=by rw[Qc];exact Qt _ _ c
  have b:=Qt l 0 c
  by_cases a:i<l.length
  ·repeat'(first|(refine zhm fun hb=>?_;try exact zab)|refine zUtp ?_|refine zg2 ?_ ?_|intro _)
   refine⟨i+1,by omega,by omega,?_⟩
   refine zag ?_;exact zp (Yf (f:=(fun x=>([.n .i64 x]:List D))) a)
  ·obtain rfl:i=l.length:=by omega
   repeat'(first|(refine zhm fun hb=>?_;try exact zab)|refine zUrp ?_|refine zg2 ?_ ?_|intro _)
   show AWp _ _ _ _
   refine Qp 7 rfl ?_
   refine QA ?_
   apply Qs
   refine zm () [] trivial ?_ ?_ ?_
   repeat'(first|exact ze3|refine ze2 ?_ ?_|refine ze4 ?_|exact ze5|fail)
   all_goals exact zp (by first|rfl|rw[Ye])
theorem Qqu{l:List Bool}(h:l.length<=1048576):DC Tryz.prog 142 [zL (Qk l)] [zL (Qk l)]:=by
 refine zMC func142 fun w0 Z O=>?_
 have hl:=Qq l
 repeat'(first|(refine zhm fun hb=>?_;try exact zab)|refine zUtp ?_|refine zg2 ?_ ?_|intro _)
 refine Qa (fun(i:Nat)=>⟨22,[(0,zL (Qk l)),(3,.row 7),(4,zI i)],[(7,.row 4 (Qk (cpyL l false i)) true)]⟩) (fun i=>i<=l.length) (fun i=>l.length-i) 0 (by exact Xae _) ?_ ?_
 ·refine⟨rfl,?_,?_,rfl⟩
  repeat'(first|exact ze3|refine ze2 ?_ ?_|refine ze4 ?_|exact ze5|fail)
  all_goals exact zp (by first|rfl|(rw[JV];exact(List.map_replicate ..).symm)|(rw[JV];simp[Qk]))
 ·intro i d
  have e:(Qk (cpyL l false i)).length=l.length:=by rw[Qq];exact Qt _ _ d
  have c:=Qt l false d
  by_cases a:i<l.length
  ·repeat'(first|(refine zhm fun hb=>?_;try exact zab)|refine zUtp ?_|refine zg2 ?_ ?_|intro _)
   refine⟨i+1,by omega,by omega,?_⟩
   refine zag ?_;exact zp (Yf (f:=(fun b=>([.b b]:List D))) a)
  ·obtain rfl:i=l.length:=by omega
   repeat'(first|(refine zhm fun hb=>?_;try exact zab)|refine zUrp ?_|refine zg2 ?_ ?_|intro _)
   show AWp _ _ _ _
   refine Qp 7 rfl ?_
   refine QA ?_
   apply Qs
   refine zm () [] trivial ?_ ?_ ?_
   repeat'(first|exact ze3|refine ze2 ?_ ?_|refine ze4 ?_|exact ze5|fail)
   all_goals exact zp (by first|rfl|rw[Ye])
theorem Qq6{l:List Qar}(h:l.length<=1048576):DC Tryz.prog 225 [zL (Qr l)] [zL (Qr l)]:=by
 refine zMC func225 fun w0 Z O=>?_
 have hl:=Qw l
 repeat'(first|(refine zhm fun hb=>?_;try exact zab)|refine zUtp ?_|refine zg2 ?_ ?_|intro _)
 refine Qa (fun(i:Nat)=>⟨23,[(0,zL (Qr l)),(3,.row 7),(4,zI i)],[(7,.row 62 (Qr (cpyL l ⟨0,⟨0,0,0⟩⟩ i)) true)]⟩) (fun i=>i<=l.length) (fun i=>l.length-i) 0 (by exact Xae _) ?_ ?_
 ·refine⟨rfl,?_,?_,rfl⟩
  repeat'(first|exact ze3|refine ze2 ?_ ?_|refine ze4 ?_|exact ze5|fail)
  all_goals exact zp (by first|rfl|(rw[JV];exact(List.map_replicate ..).symm)|(rw[JV];simp[Qr]))
 ·intro i g
  have j:(Qr (cpyL l ⟨0,⟨0,0,0⟩⟩ i)).length=l.length:=by rw[Qw];exact Qt _ _ g
  have e:=Qt l ⟨0,⟨0,0,0⟩⟩ g
  by_cases d:i<l.length
  ·repeat'(first|(refine zhm fun hb=>?_;try exact zab)|refine zUtp ?_|refine zg2 ?_ ?_|refine kc (Qle (x:=nth l i)) rfl rfl ?_|intro _)
   refine⟨i+1,by omega,by omega,?_⟩
   refine⟨rfl,?_,?_,rfl⟩
   repeat'(first|exact ze3|refine ze2 ?_ ?_|refine ze4 ?_|exact ze5|fail)
   all_goals exact zp (by first|rfl|exact Yf (f:=(fun n=>([.n .i64 n.leaf,.n .i64 n.cap.a,.n .i64 n.cap.b,.n .i64 n.cap.c]:List D))) d)
  ·obtain rfl:i=l.length:=by omega
   repeat'(first|(refine zhm fun hb=>?_;try exact zab)|refine zUrp ?_|refine zg2 ?_ ?_|intro _)
   show AWp _ _ _ _
   refine Qp 7 rfl ?_
   refine QA ?_
   apply Qs
   refine zm () [] trivial ?_ ?_ ?_
   repeat'(first|exact ze3|refine ze2 ?_ ?_|refine ze4 ?_|exact ze5|fail)
   all_goals exact zp (by first|rfl|rw[Ye])
theorem QsY{l:List Job}(h:l.length<=1048576):DC Tryz.prog 144 [zL (jobE l)] [zL (jobE l)]:=by
 refine zMC func144 fun w0 Z O=>?_
 have hl:=Qj l
 repeat'(first|(refine zhm fun hb=>?_;try exact zab)|refine zUtp ?_|refine zg2 ?_ ?_|intro _)
 refine Qa (fun(i:Nat)=>⟨23,[(0,zL (jobE l)),(3,.row 7),(4,zI i)],[(7,.row 40 (jobE (cpyL l ⟨0,0,0,⟨0,0,0⟩,⟨0,0,0⟩,0,0⟩ i)) true)]⟩) (fun i=>i<=l.length) (fun i=>l.length-i) 0 (by exact Xae _) ?_ ?_
 ·refine⟨rfl,?_,?_,rfl⟩
  repeat'(first|exact ze3|refine ze2 ?_ ?_|refine ze4 ?_|exact ze5|fail)
  all_goals exact zp (by first|rfl|(rw[JV];exact(List.map_replicate ..).symm)|(rw[JV];simp[jobE]))
 ·intro i c
  have d:(jobE (cpyL l ⟨0,0,0,⟨0,0,0⟩,⟨0,0,0⟩,0,0⟩ i)).length=l.length:=by rw[Qj];exact Qt _ _ c
  have b:=Qt l ⟨0,0,0,⟨0,0,0⟩,⟨0,0,0⟩,0,0⟩ c
  by_cases a:i<l.length
  ·repeat'(first|(refine zhm fun hb=>?_;try exact zab)|refine zUtp ?_|refine zg2 ?_ ?_|refine kc (Qe5 (x:=nth l i)) rfl rfl ?_|intro _)
   refine⟨i+1,by omega,by omega,?_⟩
   refine zag ?_;exact zp (Yf (f:=jobD) a)
  ·obtain rfl:i=l.length:=by omega
   repeat'(first|(refine zhm fun hb=>?_;try exact zab)|refine zUrp ?_|refine zg2 ?_ ?_|intro _)
   show AWp _ _ _ _
   refine Qp 7 rfl ?_
   refine QA ?_
   apply Qs
   refine zm () [] trivial ?_ ?_ ?_
   repeat'(first|exact ze3|refine ze2 ?_ ?_|refine ze4 ?_|exact ze5|fail)
   all_goals exact zp (by first|rfl|rw[Ye])
theorem Qtt{l:List QbO}(h:l.length<=1048576):DC Tryz.prog 146 [zL (endE l)] [zL (endE l)]:=by
 refine zMC func146 fun w0 Z O=>?_
 have hl:=QJ l
 repeat'(first|(refine zhm fun hb=>?_;try exact zab)|refine zUtp ?_|refine zg2 ?_ ?_|intro _)
 refine Qa (fun(i:Nat)=>⟨23,[(0,zL (endE l)),(3,.row 7),(4,zI i)],[(7,.row 123 (endE (cpyL l ⟨0,0,0⟩ i)) true)]⟩) (fun i=>i<=l.length) (fun i=>l.length-i) 0 (by exact Xae _) ?_ ?_
 ·refine⟨rfl,?_,?_,rfl⟩
  repeat'(first|exact ze3|refine ze2 ?_ ?_|refine ze4 ?_|exact ze5|fail)
  all_goals exact zp (by first|rfl|(rw[JV];exact(List.map_replicate ..).symm)|(rw[JV];simp[endE]))
 ·intro i c
  have d:(endE (cpyL l ⟨0,0,0⟩ i)).length=l.length:=by rw[QJ];exact Qt _ _ c
  have b:=Qt l ⟨0,0,0⟩ c
  by_cases a:i<l.length
  ·repeat'(first|(refine zhm fun hb=>?_;try exact zab)|refine zUtp ?_|refine zg2 ?_ ?_|refine kc (Qrw (x:=nth l i)) rfl rfl ?_|intro _)
   refine⟨i+1,by omega,by omega,?_⟩
   refine⟨rfl,?_,?_,rfl⟩
   repeat'(first|exact ze3|refine ze2 ?_ ?_|refine ze4 ?_|exact ze5|fail)
   all_goals exact zp (by first|rfl|exact Yf (f:=(fun e=>([.n .i64 e.id,.n .i64 e.at',.n .i64 e.why]:List D))) a)
  ·obtain rfl:i=l.length:=by omega
   repeat'(first|(refine zhm fun hb=>?_;try exact zab)|refine zUrp ?_|refine zg2 ?_ ?_|intro _)
   show AWp _ _ _ _
   refine Qp 7 rfl ?_
   refine QA ?_
   apply Qs
   refine zm () [] trivial ?_ ?_ ?_
   repeat'(first|exact ze3|refine ze2 ?_ ?_|refine ze4 ?_|exact ze5|fail)
   all_goals exact zp (by first|rfl|rw[Ye])
theorem Qvp{r:Run}(h:r.nodes.length<=1048576):DC Tryz.prog 227 [runA r] [runA r]:=by
 refine zMC func227 fun w0 Z O=>?_
 repeat'(first|(refine zhm fun hb=>?_;try exact zab)|refine zUro ?_|refine zg2 ?_ ?_|refine kc (Qe5 (x:=r.job)) rfl rfl ?_|refine kmu (QgO (l:=r.nodes) h) ?_|intro _)
 exact zDR
def runD(r:Run):List D:=[.n .i64 r.job.id,.n .i64 r.job.prio,.n .i64 r.job.nodes,.n .i64 r.job.need.a,.n .i64 r.job.need.b,.n .i64 r.job.need.c,.n .i64 r.job.lic.a,.n .i64 r.job.lic.b,.n .i64 r.job.lic.c,.n .i64 r.job.wall,.n .i64 r.job.level,.n .i64 r.at',.sl (intE r.nodes)]
def zRun:Run:=⟨⟨0,0,0,⟨0,0,0⟩,⟨0,0,0⟩,0,0⟩,0,[]⟩
theorem QtK{l:List Run}(h:l.length<=1048576)(hr:∀j,j<l.length->(nth l j).nodes.length<=1048576):DC Tryz.prog 145 [zL (runE l)] [zL (runE l)]:=by
 refine zMC func145 fun w0 Z O=>?_
 have hl:=Qe l
 repeat'(first|(refine zhm fun hb=>?_;try exact zab)|refine zUt ?_|refine zg2 ?_ ?_|(apply YV;first|refine zom ?_|(refine QmK rfl rfl rfl rfl (by first|with_reducible rfl|exact nlit _|rfl) rfl (by first|with_reducible rfl|exact nlit _|rfl) (by omega) ⟨rfl,rfl,rfl⟩ rfl rfl rfl rfl rfl ?_))|refine zln fun _=>?_|refine zop ?_|fail)
 show AWp _ _ _ _
 refine WW 7 rfl ?_
 refine Qa (fun(i:Nat)=>⟨23,[(0,zL (runE l)),(3,.row 7),(4,zI i)],[(7,.row 66 (runE (cpyL l zRun i)) false)]⟩) (fun i=>i<=l.length) (fun i=>l.length-i) 0 (by exact Xae _) ?_ ?_
 ·refine⟨rfl,?_,?_,rfl⟩
  repeat'(first|exact ze3|refine ze2 ?_ ?_|refine ze4 ?_|exact ze5|fail)
  all_goals exact zp (by first|rfl|(rw[JV];exact(List.map_replicate ..).symm)|(rw[JV];simp[runE,zRun,intE]))
 ·intro k c
  have d:(runE (cpyL l zRun k)).length=l.length:=by rw[Qe];exact Qt _ _ c
  have b:=Qt l zRun c
  by_cases a:k<l.length
  ·repeat'(first|(refine zhm fun hb=>?_;try exact zab)|refine zUtp ?_|refine zg2 ?_ ?_|refine kmu (Qvp (r:=nth l k) (hr k a)) ?_|intro _)
   refine⟨k+1,by omega,by omega,?_⟩
   refine zag ?_;exact zp (Yf (f:=runD) a)
  ·obtain rfl:k=l.length:=by omega
   repeat'(first|(refine zhm fun hb=>?_;try exact zab)|refine zUrp ?_|refine zg2 ?_ ?_|intro _)
   show AWp _ _ _ _
   refine Qp 7 rfl ?_
   refine QA ?_
   apply Qs
   refine zm () [] trivial ?_ ?_ ?_
   repeat'(first|exact ze3|refine ze2 ?_ ?_|refine ze4 ?_|exact ze5|fail)
   all_goals exact zp (by first|rfl|rw[Ye])
theorem Qtj{t:QX}(h1:t.parents.length<=1048576)(h2:t.nodes.length<=1048576):DC Tryz.prog 141 [YW t] [YW t]:=by
 refine zMC func141 fun w0 Z O=>?_
 repeat'(first|(refine zhm fun hb=>?_;try exact zab)|refine zUro ?_|refine zg2 ?_ ?_|refine kmu (QgO (l:=t.parents) h1) ?_|refine kmu (Qq6 (l:=t.nodes) h2) ?_|intro _)
 exact zDR
theorem QdE{s:Qb}(h:Qo 1048576 s):DC Tryz.prog 73 [Qz s] [Qz s]:=by
 refine zMC func73 fun w0 Z O=>?_
 repeat'(first|(refine zhm fun hb=>?_;try exact zab)|refine zUro ?_|refine zg2 ?_ ?_|refine kc (QbR (x:=s.lic)) rfl rfl ?_|refine kmu (Qtj (t:=s.topo) h.par h.nod) ?_|refine kmu (Qqu (l:=s.up) h.up) ?_|refine kmu (QsY (l:=s.queue) h.que) ?_|refine kmu (QtK (l:=s.runs) h.run h.rno) ?_|refine kmu (Qtt (l:=s.ends) h.end') ?_|intro _)
 exact zDR
theorem Qeq{x:V3}:zAc 151 [vecA x,vecA x] [.d (.b true)] []:=by
 refine zAC func151 fun w0 Z=>?_
 repeat'(first|(refine zhm fun hb=>?_;try exact zab)|refine zUto ?_|refine zg2 ?_ ?_|intro _)
 all_goals first|exact absurd rfl (by assumption)|skip
 exact zrr
theorem Qml{x:Qar}:zAc 283 [Qr8 x,Qr8 x] [.d (.b true)] []:=by
 refine zAC func283 fun w0 Z=>?_
 repeat'(first|(refine zhm fun hb=>?_;try exact zab)|refine zUto ?_|refine zg2 ?_ ?_|refine kc (Qeq (x:=x.cap)) rfl rfl ?_|intro _)
 all_goals first|exact absurd rfl (by assumption)|skip
 exact zrr
theorem QgV{x:Job}:zAc 230 [jobA x,jobA x] [.d (.b true)] []:=by
 refine zAC func230 fun w0 Z=>?_
 repeat'(first|(refine zhm fun hb=>?_;try exact zab)|refine zUto ?_|refine zg2 ?_ ?_|refine kc (Qeq (x:=x.need)) rfl rfl ?_|refine kc (Qeq (x:=x.lic)) rfl rfl ?_|intro _)
 all_goals first|exact absurd rfl (by assumption)|skip
 exact zrr
theorem Qqh{x:QbO}:zAc 232 [endA x,endA x] [.d (.b true)] []:=by
 refine zAC func232 fun w0 Z=>?_
 repeat'(first|(refine zhm fun hb=>?_;try exact zab)|refine zUto ?_|refine zg2 ?_ ?_|intro _)
 all_goals first|exact absurd rfl (by assumption)|skip
 exact zrr
theorem Qhm{l:List Int}(h:l.length<=1000000000) :zAc 81 [zL (intE l),zL (intE l)] [.d (.b true)] []:=by
 refine zAC func81 fun w0 Z=>?_
 have hl:=Qc l
 repeat'(first|(refine zhm fun hb=>?_;try exact zab)|refine Qd ?_|(apply zch;exact zcg)|exact zhk|refine zg3 ?_ ?_|intro _)
 all_goals first|exact absurd rfl (by assumption)|skip
 refine Qa (fun(i:Nat)=>⟨26,[(0,zL (intE l)),(1,zL (intE l)),(5,zI i)],[]⟩) (fun i=>i<=l.length) (fun i=>l.length-i) 0 (by exact Xae _) ?_ ?_
 ·exact zll
 ·intro i hi
  by_cases a:i<l.length
  ·repeat'(first|(refine zhm fun hb=>?_;try exact zab)|refine Qd ?_|(apply zch;exact zcg)|exact zhk|refine zg3 ?_ ?_|intro _)
   all_goals first|exact absurd rfl (by assumption)|skip
   exact⟨i+1,by omega,by omega,zll⟩
  ·repeat'(first|(refine zhm fun hb=>?_;try exact zab)|refine Qd ?_|(apply zch;exact zcg)|exact zhk|refine zg3 ?_ ?_|intro _)
   exact zrr
theorem Qpu{l:List Bool}(h:l.length<=1000000000) :zAc 150 [zL (Qk l),zL (Qk l)] [.d (.b true)] []:=by
 refine zAC func150 fun w0 Z=>?_
 have hl:=Qq l
 repeat'(first|(refine zhm fun hb=>?_;try exact zab)|refine Qd ?_|(apply zch;exact zcg)|exact zhk|refine zg3 ?_ ?_|intro _)
 all_goals first|exact absurd rfl (by assumption)|skip
 refine Qa (fun(i:Nat)=>⟨26,[(0,zL (Qk l)),(1,zL (Qk l)),(5,zI i)],[]⟩) (fun i=>i<=l.length) (fun i=>l.length-i) 0 (by exact Xae _) ?_ ?_
 ·exact zll
 ·intro i hi
  by_cases a:i<l.length
  ·repeat'(first|(refine zhm fun hb=>?_;try exact zab)|refine Qd ?_|(apply zch;exact zcg)|exact zhk|refine zg3 ?_ ?_|intro _)
   all_goals first|exact absurd rfl (by assumption)|skip
   exact⟨i+1,by omega,by omega,zll⟩
  ·repeat'(first|(refine zhm fun hb=>?_;try exact zab)|refine Qd ?_|(apply zch;exact zcg)|exact zhk|refine zg3 ?_ ?_|intro _)
   exact zrr
theorem Qqa{l:List Qar}(h:l.length<=1000000000) :zAc 229 [zL (Qr l),zL (Qr l)] [.d (.b true)] []:=by
 refine zAC func229 fun w0 Z=>?_
 have hl:=Qw l
 repeat'(first|(refine zhm fun hb=>?_;try exact zab)|refine Qd ?_|(apply zch;exact zcg)|exact zhk|refine zg3 ?_ ?_|intro _)
 all_goals first|exact absurd rfl (by assumption)|skip
 refine Qa (fun(i:Nat)=>⟨27,[(0,zL (Qr l)),(1,zL (Qr l)),(5,zI i)],[]⟩) (fun i=>i<=l.length) (fun i=>l.length-i) 0 (by exact Xae _) ?_ ?_
 ·exact zll
 ·intro i hi
  by_cases a:i<l.length
  ·repeat'(first|(refine zhm fun hb=>?_;try exact zab)|refine Qd ?_|(apply zch;exact zcg)|exact zhk|refine zg3 ?_ ?_|refine kc (Qml (x:=nth l i)) rfl rfl ?_|refine kq (Qml (x:=nth l i)) rfl rfl ?_|intro _)
   all_goals first|exact absurd rfl (by assumption)|skip
   exact⟨i+1,by omega,by omega,zll⟩
  ·repeat'(first|(refine zhm fun hb=>?_;try exact zab)|refine Qd ?_|(apply zch;exact zcg)|exact zhk|refine zg3 ?_ ?_|intro _)
   exact zrr
theorem QtC{l:List Job}(h:l.length<=1000000000) :zAc 152 [zL (jobE l),zL (jobE l)] [.d (.b true)] []:=by
 refine zAC func152 fun w0 Z=>?_
 have hl:=Qj l
 repeat'(first|(refine zhm fun hb=>?_;try exact zab)|refine Qd ?_|(apply zch;exact zcg)|exact zhk|refine zg3 ?_ ?_|intro _)
 all_goals first|exact absurd rfl (by assumption)|skip
 refine Qa (fun(i:Nat)=>⟨27,[(0,zL (jobE l)),(1,zL (jobE l)),(5,zI i)],[]⟩) (fun i=>i<=l.length) (fun i=>l.length-i) 0 (by exact Xae _) ?_ ?_
 ·exact zll
 ·intro i hi
  by_cases a:i<l.length
  ·repeat'(first|(refine zhm fun hb=>?_;try exact zab)|refine Qd ?_|(apply zch;exact zcg)|exact zhk|refine zg3 ?_ ?_|refine kc (QgV (x:=nth l i)) rfl rfl ?_|refine kq (QgV (x:=nth l i)) rfl rfl ?_|intro _)
   all_goals first|exact absurd rfl (by assumption)|skip
   exact⟨i+1,by omega,by omega,zll⟩
  ·repeat'(first|(refine zhm fun hb=>?_;try exact zab)|refine Qd ?_|(apply zch;exact zcg)|exact zhk|refine zg3 ?_ ?_|intro _)
   exact zrr
theorem Qs8{l:List QbO}(h:l.length<=1000000000) :zAc 154 [zL (endE l),zL (endE l)] [.d (.b true)] []:=by
 refine zAC func154 fun w0 Z=>?_
 have hl:=QJ l
 repeat'(first|(refine zhm fun hb=>?_;try exact zab)|refine Qd ?_|(apply zch;exact zcg)|exact zhk|refine zg3 ?_ ?_|intro _)
 all_goals first|exact absurd rfl (by assumption)|skip
 refine Qa (fun(i:Nat)=>⟨27,[(0,zL (endE l)),(1,zL (endE l)),(5,zI i)],[]⟩) (fun i=>i<=l.length) (fun i=>l.length-i) 0 (by exact Xae _) ?_ ?_
 ·exact zll
 ·intro i hi
  by_cases a:i<l.length
  ·repeat'(first|(refine zhm fun hb=>?_;try exact zab)|refine Qd ?_|(apply zch;exact zcg)|exact zhk|refine zg3 ?_ ?_|refine kc (Qqh (x:=nth l i)) rfl rfl ?_|refine kq (Qqh (x:=nth l i)) rfl rfl ?_|intro _)
   all_goals first|exact absurd rfl (by assumption)|skip
   exact⟨i+1,by omega,by omega,zll⟩
  ·repeat'(first|(refine zhm fun hb=>?_;try exact zab)|refine Qd ?_|(apply zch;exact zcg)|exact zhk|refine zg3 ?_ ?_|intro _)
   exact zrr
theorem Qqg{r:Run}(h:r.nodes.length<=1000000000):zAc 231 [runA r,runA r] [.d (.b true)] []:=by
 refine zAC func231 fun w0 Z=>?_
 repeat'(first|(refine zhm fun hb=>?_;try exact zab)|refine zUto ?_|refine zg2 ?_ ?_|refine kc (QgV (x:=r.job)) rfl rfl ?_|refine kc (Qhm (l:=r.nodes) h) rfl rfl ?_|intro _)
 all_goals first|exact absurd rfl (by assumption)|skip
 exact zrr
theorem Qte{l:List Run}(h:l.length<=1000000000)(hr:∀j,j<l.length->(nth l j).nodes.length<=1000000000):zAc 153 [zL (runE l),zL (runE l)] [.d (.b true)] []:=by
 refine zAC func153 fun w0 Z=>?_
 have hl:=Qe l
 repeat'(first|(refine zhm fun hb=>?_;try exact zab)|refine Qd ?_|(apply zch;exact zcg)|exact zhk|refine zg3 ?_ ?_|intro _)
 all_goals first|exact absurd rfl (by assumption)|skip
 refine Qa (fun(i:Nat)=>⟨27,[(0,zL (runE l)),(1,zL (runE l)),(5,zI i)],[]⟩) (fun i=>i<=l.length) (fun i=>l.length-i) 0 (by exact Xae _) ?_ ?_
 ·exact zll
 ·intro i hi
  by_cases a:i<l.length
  ·repeat'(first|(refine zhm fun hb=>?_;try exact zab)|refine Qd ?_|(apply zch;exact zcg)|exact zhk|refine zg3 ?_ ?_|refine kc (Qqg (r:=nth l i) (hr i a)) rfl rfl ?_|refine kq (Qqg (r:=nth l i) (hr i a)) rfl rfl ?_|intro _)
   all_goals first|exact absurd rfl (by assumption)|skip
   exact⟨i+1,by omega,by omega,zll⟩
  ·repeat'(first|(refine zhm fun hb=>?_;try exact zab)|refine Qd ?_|(apply zch;exact zcg)|exact zhk|refine zg3 ?_ ?_|intro _)
   exact zrr
theorem QtU{t:QX}(h1:t.parents.length<=1000000000)(h2:t.nodes.length<=1000000000):zAc 149 [YW t,YW t] [.d (.b true)] []:=by
 refine zAC func149 fun w0 Z=>?_
 repeat'(first|(refine zhm fun hb=>?_;try exact zab)|refine zUto ?_|refine zg2 ?_ ?_|refine kc (Qhm (l:=t.parents) h1) rfl rfl ?_|refine kc (Qqa (l:=t.nodes) h2) rfl rfl ?_|intro _)
 exact zrr
theorem Qe8{s:Qb}(h:Qo 1000000000 s):zAc 78 [Qz s,Qz s] [.d (.b true)] []:=by
 refine zAC func78 fun w0 Z=>?_
 repeat'(first|(refine zhm fun hb=>?_;try exact zab)|refine zUto ?_|refine zg2 ?_ ?_|refine kc (QtU (t:=s.topo) h.par h.nod) rfl rfl ?_|refine kc (Qpu (l:=s.up) h.up) rfl rfl ?_|refine kc (Qeq (x:=s.lic)) rfl rfl ?_|refine kc (QtC (l:=s.queue) h.que) rfl rfl ?_|refine kc (Qte (l:=s.runs) h.run h.rno) rfl rfl ?_|refine kc (Qs8 (l:=s.ends) h.end') rfl rfl ?_|intro _)
 all_goals first|exact absurd rfl (by assumption)|skip
 exact zrr
end
end Go.Proofs.YtkdniahincpmaaaGreat
