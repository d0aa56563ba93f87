/-
  The law's own functions over states: the size, the copy, equality with itself.
-/
import Derived.Test.YtihgfennoalocaaGreatKB7
import Derived.Test.YtihgfennoalocaaGreatKB11
set_option maxRecDepth 100000
set_option maxHeartbeats 16000000
namespace Go.Proofs.YtihgfennoalocaaGreat
open Go Go.RowKit Tryz
section

theorem Wm(p:Nat){X:Cx}{c:Code}{Q:Exit->AS->Prop}{σ:AS}{e:TypeId}{es:List (List D)}{dp:Bool}(hp:Qm σ.ob p=some (.row e es dp))(h:AWp X c Q ⟨σ.nt,σ.sl,(p,.row e es false)::YB p σ.ob⟩):AWp X c Q σ:=by
 intro a w hr
 obtain⟨en,h1⟩:=hr
 obtain⟨y,hy,hyn,hya⟩:=h1.ent hp
 have hok:=h1.mem.ok y hy
 unfold EntOk at hok
 rw[hya]at hok
 obtain⟨z,us,k0,k1,k2,k3,k4,k5,k6,k7⟩:=hok
 have hs:Qef X.P X.w0 X.Z X.O en w w p ⟨p,.row e es false,y.val,y.fs⟩ (fun _=>true):=
  ⟨h1.mem,fun _ _=>rfl,fun _ x hx e=>by
    have:=h1.mem.ent_unique hx hy (e.trans hyn.symm)
    subst this
    exact⟨e.symm,rfl,by rw[hya];rfl,by rw[hya];rfl⟩,rfl,rfl,rfl,Xam _,
   fun b hb hno=>rfl,fun b hb=>.inr ⟨y,hy,hyn,by
   rcases hb with hb|⟨hd,_⟩
   ·exact .inl hb
   ·cases hd⟩,rfl,hyn▸h1.mem.fix y hy⟩
 have h2:=h1.swap_keep hs (by
  unfold EntOk
  exact⟨z,us,k0,k1,k2,k3,k4,fun _ b hb=>hs.imm_fs hy hyn (by rw[hya];rfl) k5 (fun hd=>(k7 hd).2.1) (fun hd b hb hq=>by
   rcases hq with hq|⟨hq,_⟩
   ·exact((k7 hd).2.1 b hb).2.2 hq
   ·cases hq) b hb,k6,fun h=>by cases h⟩) (fun hd=>by cases hd)
 exact h a w ⟨_,h2⟩
theorem QkE{X:Cx}{σ:AS}{o:Oper}{K:AS->Prop}{t:Nat}{T e:TypeId}{x y:Operand}{p q:Int}{n:Nat}{zd:List D}[te:TI X.P e](ho:o.op=.makeSlice T x y)(hd:o.dst=some t)(hT:Ju X T=some e)(hx:σ.ev x=zI p)(hp:p=(n:Int))(hy:σ.ev y=zI q)(hq:q=(n:Int))(hb:n<=1099511627776)
  (hk:Vg te) (hzd:(YP (W0 te.zero)).bind (fun l=>Zi l some)=some zd) (hfl:zd.all D.flat=true) (hlz:Nat.beq zd.length te.size=true) (hf:Yz X.fre t σ.ob=true) (ht:Nat.blt t σ.nt=true)
  (hK:K ⟨σ.nt,(t,.row t)::σ.sl,(t,.row e (List.replicate n zd) true)::YB t σ.ob⟩):OpOk X o σ K:=
 Qbz (ao:=.row e (List.replicate n zd) true) hd ht hf (fun a w en h1=>by
  have hzd:YP (W0 te.zero)=some zd:=by
   cases hz:YP (W0 te.zero) with
   | none=>rw[hz]at hzd;cases hzd
   | some l=>rw[hz,Xbd,ZX]at hzd;exact hzd
  subst hp;subst hq
  have hu:=QL hT
  obtain⟨i,q1,q2,q3,q4⟩:=te.parts
  have hpos:=Jg hk.pos
  have hzc:te.zero.cells.size=te.size:=(Qg _ _).1 hk.zero
  have hmade:=VZ te.zero.cells n (by omega)
  obtain⟨F,⟨e1,_⟩,_⟩:=QP h1 hx
  obtain⟨G,⟨e2,_⟩,_⟩:=QP h1 hy
  obtain⟨F',k1,k2⟩:=Yn (w:=w) (en:=en) (I:=IM X en w) hzd (Yq te.zero.cells.toList)
  have hF:F'=[]:=Jw k1 hfl
  subst hF
  have hzl:zd.length=te.size:=(Qg _ _).1 hlz
  have hby:te.bytes<=128:=XaJ hk.bytes
  have hr:=run_make (P:=X.P) w T e i te.zero hu q1 q2 .i64 .i64 n n (by omega) (XcG _) (by
   rw[q4]
   have:te.bytes*n<=128*1099511627776:=Nat.mul_le_mul hby hb
   have h2:((te.bytes*n:Nat):Int)<=281474976710656:=by omega
   rwa [Xcw]at h2) (by omega)
  simp only[XcC]at hr
  refine⟨.slice (some ⟨w.heap.size,0,none⟩) n n,[],w.alloc (.cells (madeCells te.zero.cells (n*i.size)) e),?_,Ext.alloc_ w _,fun en' he=>⟨_,he,rfl,rfl,rfl⟩,fun b hb=>?_,fun hI hTr=>?_,fun _=>rfl⟩
  ·simp only[execOp,ho,e1,e2,Sem.run_bind,hr,Result.andThen]
   rfl
  ·simp only[blk,Xal]at hb
   exact XbR hb
  ·unfold EntOk
   have hl:(madeCells te.zero.cells (n*i.size)).toList=(List.replicate n te.zero.cells.toList).flatten:=by rw[q3,<-hzc];exact hmade
   refine⟨te.size,(List.replicate n te.zero.cells.toList).flatten,te.sized,hpos,?_,fun el hel=>?_,QH (Ext.alloc_ w _).size _ _ _ (Ye k1 n) (by simp),by simp,fun g hg=>?_,fun _=>⟨by simp,by simp,NstL.nilE (QH (Ext.alloc_ w _).size _ _ _ (Ye k1 n) (by simp))⟩⟩
   ·rw[Xbq]
    have hsz:(madeCells te.zero.cells (n*i.size)).size=n*te.size:=by rw[size_madeCells,q3]
    have hsz2:(List.replicate n te.zero.cells.toList).flatten.length=n*te.size:=by rw[<-hl,Xay,hsz]
    refine⟨hsz2,.inr ⟨w.heap.size,n,_,rfl,Xab _,heap_alloc_new w _,Xam _,by unfold maxLen;omega,hsz,?_⟩⟩
    rw[hl,<-hsz2]
    exact Xap
   ·rw[Xbn hel];exact hzl
   ·simp only[blk,Xal]at hg
    subst hg
    exact .inr h1.mem.size) hK
attribute [local irreducible] AWp QJ OpOk ACalls ChA QsOk MCalls EnC PY
theorem QaH{α:Type}{f:α->List D}{p:α->Prop}:∀{es:List (List D)},(∀q∈es,∃r,q=f r/\p r)->∃l:List α,es=l.map f/\∀r∈l,p r
 | [],_=>⟨[],rfl,by simp⟩
 | e::es,h=>by
  obtain⟨r,rfl,h1⟩:=h _ Xaa
  obtain⟨l,rfl,h2⟩:=QaH (es:=es) fun q hq=>h q (Xae _ hq)
  refine⟨r::l,rfl,fun s hs=>?_⟩
  rcases Xaj.1 hs with rfl|hs
  ·exact h1
  ·exact h2 s hs
@[reducible] def Qru (n:X6):AV:=.agg [zI n.leaf,zI n.cap.a,zI n.cap.b,zI n.cap.c]
@[reducible] def runA (r:Run):AV:=.agg [zI r.job.id,zI r.job.prio,zI r.job.nodes,zI r.job.need.a,zI r.job.need.b,zI r.job.need.c,zI r.job.lic.a,zI r.job.lic.b,zI r.job.lic.c,zI r.job.wall,zI r.job.level,zI r.at',zL (intE r.nodes)]
@[reducible] def endA (e:Qb5):AV:=.agg [zI e.id,zI e.at',zI e.why]
theorem QiC{l:List Run}{j:Nat}(h:j<l.length):(runE l)[j]?=some [.n .i64 (nth l j).job.id,.n .i64 (nth l j).job.prio,.n .i64 (nth l j).job.nodes,.n .i64 (nth l j).job.need.a,.n .i64 (nth l j).job.need.b,.n .i64 (nth l j).job.need.c,.n .i64 (nth l j).job.lic.a,.n .i64 (nth l j).job.lic.b,.n .i64 (nth l j).job.lic.c,.n .i64 (nth l j).job.wall,.n .i64 (nth l j).job.level,.n .i64 (nth l j).at',.sl (intE (nth l j).nodes)]:=Z5 h
theorem ZY(l:List Int):(intE l).length=l.length:=Qb l
theorem Qgf{l:List Int}{x:Int}(h:l.length<=9223372036854775807)(hx:0<=x/\x<=1048576):SC Tryz.prog 64 (zL (intE l)) x (l.length<=1048576):=by
 refine zMC func64 fun w0 Z O=>?_
 have hl:=Qb l
 repeat'(first|(refine zhm fun hb=>?_;try exact zab)|refine zUtp ?_|refine zg2 ?_ ?_|intro _|fail)
 ·exact zm (-1) [] (by exact⟨by omega,fun h=>by omega⟩) zae zae zae
 ·exact zm (x-l.length) [] (by exact⟨by omega,fun _=>by omega⟩) zae zae zae
theorem Qoj{l:List X6}{x:Int}(h:l.length<=9223372036854775807)(hx:0<=x/\x<=1048576):SC Tryz.prog 139 (zL (Qz l)) x (l.length<=1048576):=by
 refine zMC func139 fun w0 Z O=>?_
 have hl:=Qr l
 repeat'(first|(refine zhm fun hb=>?_;try exact zab)|refine zUtp ?_|refine zg2 ?_ ?_|intro _|fail)
 ·exact zm (-1) [] (by exact⟨by omega,fun h=>by omega⟩) zae zae zae
 ·exact zm (x-l.length) [] (by exact⟨by omega,fun _=>by omega⟩) zae zae zae
theorem Qmt{l:List Bool}{x:Int}(h:l.length<=9223372036854775807)(hx:0<=x/\x<=1048576):SC Tryz.prog 77 (zL (Qq l)) x (l.length<=1048576):=by
 refine zMC func77 fun w0 Z O=>?_
 have hl:=Qo l
 repeat'(first|(refine zhm fun hb=>?_;try exact zab)|refine zUtp ?_|refine zg2 ?_ ?_|intro _|fail)
 ·exact zm (-1) [] (by exact⟨by omega,fun h=>by omega⟩) zae zae zae
 ·exact zm (x-l.length) [] (by exact⟨by omega,fun _=>by omega⟩) zae zae zae
theorem QqF{l:List Job}{x:Int}(h:l.length<=9223372036854775807)(hx:0<=x/\x<=1048576):SC Tryz.prog 78 (zL (jobE l)) x (l.length<=1048576):=by
 refine zMC func78 fun w0 Z O=>?_
 have hl:=Qk l
 repeat'(first|(refine zhm fun hb=>?_;try exact zab)|refine zUtp ?_|refine zg2 ?_ ?_|intro _|fail)
 ·exact zm (-1) [] (by exact⟨by omega,fun h=>by omega⟩) zae zae zae
 ·exact zm (x-l.length) [] (by exact⟨by omega,fun _=>by omega⟩) zae zae zae
theorem QpS{l:List Qb5}{x:Int}(h:l.length<=9223372036854775807)(hx:0<=x/\x<=1048576):SC Tryz.prog 80 (zL (endE l)) x (l.length<=1048576):=by
 refine zMC func80 fun w0 Z O=>?_
 have hl:=QC l
 repeat'(first|(refine zhm fun hb=>?_;try exact zab)|refine zUtp ?_|refine zg2 ?_ ?_|intro _|fail)
 ·exact zm (-1) [] (by exact⟨by omega,fun h=>by omega⟩) zae zae zae
 ·exact zm (x-l.length) [] (by exact⟨by omega,fun _=>by omega⟩) zae zae zae
theorem Qsw{r:Run}{x:Int}(h:r.nodes.length<=9223372036854775807)(hx:0<=x/\x<=1048576):SC Tryz.prog 140 (runA r) x (r.nodes.length<=1048576):=by
 refine zMC func140 fun w0 Z O=>?_
 repeat'(first|(refine zhm fun hb=>?_;try exact zab)|refine zUto ?_|refine zg2 ?_ ?_|(refine km [] (Qgf (l:=r.nodes) (x:=x) h hx) rfl rfl (fun i hi=>?_);try dsimp only at hi)|intro _|fail)
 ·exact zm (-1) [] (by exact⟨by omega,fun h=>by omega⟩) zae zae zae
 ·exact zm i [] (by exact⟨hi.1,hi.2⟩) zae zae zae
theorem QqI{l:List Run}{x:Int}(h:l.length<=9223372036854775807)(hr:∀j,j<l.length->(nth l j).nodes.length<=9223372036854775807)(hx:0<=x/\x<=1048576):SC Tryz.prog 79 (zL (runE l)) x (l.length<=1048576/\∀j,j<l.length->(nth l j).nodes.length<=1048576):=by
 refine zMC func79 fun w0 Z O=>?_
 have hl:=Qf l
 repeat'(first|(refine zhm fun hb=>?_;try exact zab)|refine zUtp ?_|refine zg2 ?_ ?_|intro _|fail)
 ·exact zm (-1) [] (by exact⟨by omega,fun h=>by omega⟩) zae zae zae
 ·refine Qa (fun(k:Nat×Int)=>⟨27,[(0,zL (runE l)),(1,zI k.2),(5,zI k.1)],[]⟩) (fun k=>k.1<=l.length/\(0<=k.2/\k.2<=x-l.length)/\∀j,j<k.1->(nth l j).nodes.length<=1048576) (fun k=>l.length-k.1) (0,x-l.length) (by exact⟨Xab _,⟨by omega,XcG _⟩,fun j hj=>absurd hj (Xas _)⟩) ?_ ?_
  ·exact zll
  ·rintro ⟨n,y⟩ ⟨h1,h2,h3⟩
   dsimp only at h1 h2 h3 ⊢
   by_cases hn:n<l.length
   ·repeat'(first|(refine zhm fun hb=>?_;try exact zab)|refine zUtp ?_|refine zg2 ?_ ?_|(refine km [] (Qsw (r:=nth l n) (x:=y) (hr n hn) (by omega)) rfl rfl (fun i hi=>?_);try dsimp only at hi)|intro _|fail)
    ·exact zm (-1) [] (by exact⟨by omega,fun h=>by omega⟩) zae zae zae
    ·refine⟨(n+1,i),⟨by omega,by dsimp only;omega,fun j hj=>?_⟩,by dsimp only;omega,?_⟩
     ·by_cases e:j=n
      ·subst e;exact hi.2 (by omega)
      ·exact h3 j (by dsimp only at hj;omega)
     exact zll
   ·repeat'(first|(refine zhm fun hb=>?_;try exact zab)|refine zUtp ?_|refine zg2 ?_ ?_|intro _|fail)
    exact zm y [] (by exact⟨by omega,fun _=>⟨by omega,fun j hj=>h3 j (by omega)⟩⟩) zae zae zae
theorem QqK{t:QW}{x:Int}(h1:t.parents.length<=9223372036854775807)(h2:t.nodes.length<=9223372036854775807)(hx:0<=x/\x<=1048576):SC Tryz.prog 76 (Yy t) x (t.parents.length<=1048576/\t.nodes.length<=1048576):=by
 refine zMC func76 fun w0 Z O=>?_
 repeat'(first|(refine zhm fun hb=>?_;try exact zab)|refine zUto ?_|refine zg2 ?_ ?_|(refine km [] (Qgf (l:=t.parents) (x:=x) h1 hx) rfl rfl (fun i hi=>?_);try dsimp only at hi)|(refine km [] (Qoj (l:=t.nodes) h2 (by omega)) rfl rfl (fun i hi=>?_);try dsimp only at hi)|intro _|fail)
 ·exact zm (-1) [] (by exact⟨by omega,fun h=>by omega⟩) zae zae zae
 ·exact zm (-1) [] (by exact⟨by omega,fun h=>by omega⟩) zae zae zae
 ·rename_i i0 hi0 _
  exact zm i [] (by exact⟨by omega,fun _=>⟨hi0.2 (by omega),hi.2 (by omega)⟩⟩) zae zae zae
theorem Qap{s:Qd}{x:Int}(h:Ql 9223372036854775807 s)(hx:0<=x/\x<=1048576):SC Tryz.prog 28 (Qx s) x (Ql 1048576 s):=by
 refine zMC func28 fun w0 Z O=>?_
 repeat'(first|(refine zhm fun hb=>?_;try exact zab)|refine zUto ?_|refine zg2 ?_ ?_|(refine km [] (QqK (t:=s.topo) (x:=x) h.par h.nod hx) rfl rfl (fun i hi=>?_);try dsimp only at hi)|(refine km [] (Qmt (l:=s.up) h.up (by omega)) rfl rfl (fun i hi=>?_);try dsimp only at hi)|(refine km [] (QqF (l:=s.queue) h.que (by omega)) rfl rfl (fun i hi=>?_);try dsimp only at hi)|(refine km [] (QqI (l:=s.runs) h.run h.rno (by omega)) rfl rfl (fun i hi=>?_);try dsimp only at hi)|(refine km [] (QpS (l:=s.ends) h.end' (by omega)) rfl rfl (fun i hi=>?_);try dsimp only at hi)|intro _|fail)
 ·exact zm (-1) [] (by exact⟨by omega,fun h=>by omega⟩) zae zae zae
 ·exact zm (-1) [] (by exact⟨by omega,fun h=>by omega⟩) zae zae zae
 ·exact zm (-1) [] (by exact⟨by omega,fun h=>by omega⟩) zae zae zae
 ·exact zm (-1) [] (by exact⟨by omega,fun h=>by omega⟩) zae zae zae
 ·exact zm (-1) [] (by exact⟨by omega,fun h=>by omega⟩) zae zae zae
 ·rename_i i0 hi0 _ i1 hi1 _ i2 hi2 _ i3 hi3 _
  exact zm i [] (by exact⟨by omega,fun _=>⟨(hi0.2 (by omega)).1,(hi0.2 (by omega)).2,hi1.2 (by omega),hi2.2 (by omega),(hi3.2 (by omega)).1,hi.2 (by omega),(hi3.2 (by omega)).2⟩⟩) zae zae zae
theorem Qd3{s:Qd}(h:Ql 9223372036854775807 s):SC Tryz.prog 28 (Qx s) 1048576 (Ql 1048576 s):=Qap h (by omega)
theorem Qa1{x:V3}:zAc 72 [vecA x] [vecA x] []:=by
 refine zAC func72 fun w0 Z=>?_
 repeat'(first|(refine zhm fun hb=>?_;try exact zab)|refine zUto ?_|refine zg2 ?_ ?_|intro _|fail)
 exact zrr
theorem QjB{x:X6}:zAc 215 [Qru x] [Qru x] []:=by
 refine zAC func215 fun w0 Z=>?_
 repeat'(first|(refine zhm fun hb=>?_;try exact zab)|refine zUto ?_|refine zg2 ?_ ?_|refine kc (Qa1 (x:=x.cap)) rfl rfl ?_|intro _|fail)
 exact zrr
theorem QcV{x:Job}:zAc 71 [jobA x] [jobA x] []:=by
 refine zAC func71 fun w0 Z=>?_
 repeat'(first|(refine zhm fun hb=>?_;try exact zab)|refine zUto ?_|refine zg2 ?_ ?_|refine kc (Qa1 (x:=x.need)) rfl rfl ?_|refine kc (Qa1 (x:=x.lic)) rfl rfl ?_|intro _|fail)
 exact zrr
theorem Qor{x:Qb5}:zAc 143 [endA x] [endA x] []:=by
 refine zAC func143 fun w0 Z=>?_
 repeat'(first|(refine zhm fun hb=>?_;try exact zab)|refine zUto ?_|refine zg2 ?_ ?_|intro _|fail)
 exact zrr
theorem Qfu{l:List Int}(h:l.length<=1048576):DC Tryz.prog 66 [zL (intE l)] [zL (intE l)]:=by
 refine zMC func66 fun w0 Z O=>?_
 have hl:=Qb l
 repeat'(first|(refine zhm fun hb=>?_;try exact zab)|refine zUtp ?_|refine zg2 ?_ ?_|intro _|fail)
 refine Qa (fun(i:Nat)=>⟨22,[(0,zL (intE l)),(3,.row 7),(4,zI i)],[(7,.row 3 (intE (cpyL l 0 i)) true)]⟩) (fun i=>i<=l.length) (fun i=>l.length-i) 0 (by exact Xab _) ?_ ?_
 ·refine⟨rfl,?_,?_,rfl⟩
  repeat'(first|exact ze3|refine ze2 ?_ ?_|refine ze4 ?_|exact ze5|fail)
  all_goals exact zp (by first|rfl|(rw[JR];exact(List.map_replicate ..).symm)|(rw[JR];simp[intE]))
 ·intro i hi
  have hcl:(intE (cpyL l 0 i)).length=l.length:=by rw[Qb];exact Qw _ _ hi
  have hcl2:=Qw l 0 hi
  by_cases hi':i<l.length
  ·repeat'(first|(refine zhm fun hb=>?_;try exact zab)|refine zUtp ?_|refine zg2 ?_ ?_|intro _|fail)
   refine⟨i+1,by omega,by omega,?_⟩
   refine zag ?_;exact zp (Yl (f:=(fun x=>([.n .i64 x]:List D))) hi')
  ·obtain rfl:i=l.length:=by omega
   repeat'(first|(refine zhm fun hb=>?_;try exact zab)|refine zUrp ?_|refine zg2 ?_ ?_|intro _|fail)
   show AWp _ _ _ _
   refine Qs 7 rfl ?_
   refine QD ?_
   apply Qt
   refine zm () [] trivial ?_ ?_ ?_
   repeat'(first|exact ze3|refine ze2 ?_ ?_|refine ze4 ?_|exact ze5|fail)
   all_goals exact zp (by first|rfl|rw[Ym])
theorem Qnm{l:List Bool}(h:l.length<=1048576):DC Tryz.prog 84 [zL (Qq l)] [zL (Qq l)]:=by
 refine zMC func84 fun w0 Z O=>?_
 have hl:=Qo l
 repeat'(first|(refine zhm fun hb=>?_;try exact zab)|refine zUtp ?_|refine zg2 ?_ ?_|intro _|fail)
 refine Qa (fun(i:Nat)=>⟨22,[(0,zL (Qq l)),(3,.row 7),(4,zI i)],[(7,.row 4 (Qq (cpyL l false i)) true)]⟩) (fun i=>i<=l.length) (fun i=>l.length-i) 0 (by exact Xab _) ?_ ?_
 ·refine⟨rfl,?_,?_,rfl⟩
  repeat'(first|exact ze3|refine ze2 ?_ ?_|refine ze4 ?_|exact ze5|fail)
  all_goals exact zp (by first|rfl|(rw[JR];exact(List.map_replicate ..).symm)|(rw[JR];simp[Qq]))
 ·intro i hi
  have hcl:(Qq (cpyL l false i)).length=l.length:=by rw[Qo];exact Qw _ _ hi
  have hcl2:=Qw l false hi
  by_cases hi':i<l.length
  ·repeat'(first|(refine zhm fun hb=>?_;try exact zab)|refine zUtp ?_|refine zg2 ?_ ?_|intro _|fail)
   refine⟨i+1,by omega,by omega,?_⟩
   refine zag ?_;exact zp (Yl (f:=(fun b=>([.b b]:List D))) hi')
  ·obtain rfl:i=l.length:=by omega
   repeat'(first|(refine zhm fun hb=>?_;try exact zab)|refine zUrp ?_|refine zg2 ?_ ?_|intro _|fail)
   show AWp _ _ _ _
   refine Qs 7 rfl ?_
   refine QD ?_
   apply Qt
   refine zm () [] trivial ?_ ?_ ?_
   repeat'(first|exact ze3|refine ze2 ?_ ?_|refine ze4 ?_|exact ze5|fail)
   all_goals exact zp (by first|rfl|rw[Ym])
theorem Qnu{l:List X6}(h:l.length<=1048576):DC Tryz.prog 141 [zL (Qz l)] [zL (Qz l)]:=by
 refine zMC func141 fun w0 Z O=>?_
 have hl:=Qr l
 repeat'(first|(refine zhm fun hb=>?_;try exact zab)|refine zUtp ?_|refine zg2 ?_ ?_|intro _|fail)
 refine Qa (fun(i:Nat)=>⟨23,[(0,zL (Qz l)),(3,.row 7),(4,zI i)],[(7,.row 225 (Qz (cpyL l ⟨0,⟨0,0,0⟩⟩ i)) true)]⟩) (fun i=>i<=l.length) (fun i=>l.length-i) 0 (by exact Xab _) ?_ ?_
 ·refine⟨rfl,?_,?_,rfl⟩
  repeat'(first|exact ze3|refine ze2 ?_ ?_|refine ze4 ?_|exact ze5|fail)
  all_goals exact zp (by first|rfl|(rw[JR];exact(List.map_replicate ..).symm)|(rw[JR];simp[Qz]))
 ·intro i hi
  have hcl:(Qz (cpyL l ⟨0,⟨0,0,0⟩⟩ i)).length=l.length:=by rw[Qr];exact Qw _ _ hi
  have hcl2:=Qw l ⟨0,⟨0,0,0⟩⟩ hi
  by_cases hi':i<l.length
  ·repeat'(first|(refine zhm fun hb=>?_;try exact zab)|refine zUtp ?_|refine zg2 ?_ ?_|refine kc (QjB (x:=nth l i)) rfl rfl ?_|intro _|fail)
   refine⟨i+1,by omega,by omega,?_⟩
   refine⟨rfl,?_,?_,rfl⟩
   repeat'(first|exact ze3|refine ze2 ?_ ?_|refine ze4 ?_|exact ze5|fail)
   all_goals exact zp (by first|rfl|exact Yl (f:=(fun n=>([.n .i64 n.leaf,.n .i64 n.cap.a,.n .i64 n.cap.b,.n .i64 n.cap.c]:List D))) hi')
  ·obtain rfl:i=l.length:=by omega
   repeat'(first|(refine zhm fun hb=>?_;try exact zab)|refine zUrp ?_|refine zg2 ?_ ?_|intro _|fail)
   show AWp _ _ _ _
   refine Qs 7 rfl ?_
   refine QD ?_
   apply Qt
   refine zm () [] trivial ?_ ?_ ?_
   repeat'(first|exact ze3|refine ze2 ?_ ?_|refine ze4 ?_|exact ze5|fail)
   all_goals exact zp (by first|rfl|rw[Ym])
theorem Qqr{l:List Job}(h:l.length<=1048576):DC Tryz.prog 85 [zL (jobE l)] [zL (jobE l)]:=by
 refine zMC func85 fun w0 Z O=>?_
 have hl:=Qk l
 repeat'(first|(refine zhm fun hb=>?_;try exact zab)|refine zUtp ?_|refine zg2 ?_ ?_|intro _|fail)
 refine Qa (fun(i:Nat)=>⟨23,[(0,zL (jobE l)),(3,.row 7),(4,zI i)],[(7,.row 72 (jobE (cpyL l ⟨0,0,0,⟨0,0,0⟩,⟨0,0,0⟩,0,0⟩ i)) true)]⟩) (fun i=>i<=l.length) (fun i=>l.length-i) 0 (by exact Xab _) ?_ ?_
 ·refine⟨rfl,?_,?_,rfl⟩
  repeat'(first|exact ze3|refine ze2 ?_ ?_|refine ze4 ?_|exact ze5|fail)
  all_goals exact zp (by first|rfl|(rw[JR];exact(List.map_replicate ..).symm)|(rw[JR];simp[jobE]))
 ·intro i hi
  have hcl:(jobE (cpyL l ⟨0,0,0,⟨0,0,0⟩,⟨0,0,0⟩,0,0⟩ i)).length=l.length:=by rw[Qk];exact Qw _ _ hi
  have hcl2:=Qw l ⟨0,0,0,⟨0,0,0⟩,⟨0,0,0⟩,0,0⟩ hi
  by_cases hi':i<l.length
  ·repeat'(first|(refine zhm fun hb=>?_;try exact zab)|refine zUtp ?_|refine zg2 ?_ ?_|refine kc (QcV (x:=nth l i)) rfl rfl ?_|intro _|fail)
   refine⟨i+1,by omega,by omega,?_⟩
   refine zag ?_;exact zp (Yl (f:=jobD) hi')
  ·obtain rfl:i=l.length:=by omega
   repeat'(first|(refine zhm fun hb=>?_;try exact zab)|refine zUrp ?_|refine zg2 ?_ ?_|intro _|fail)
   show AWp _ _ _ _
   refine Qs 7 rfl ?_
   refine QD ?_
   apply Qt
   refine zm () [] trivial ?_ ?_ ?_
   repeat'(first|exact ze3|refine ze2 ?_ ?_|refine ze4 ?_|exact ze5|fail)
   all_goals exact zp (by first|rfl|rw[Ym])
theorem Qrn{l:List Qb5}(h:l.length<=1048576):DC Tryz.prog 87 [zL (endE l)] [zL (endE l)]:=by
 refine zMC func87 fun w0 Z O=>?_
 have hl:=QC l
 repeat'(first|(refine zhm fun hb=>?_;try exact zab)|refine zUtp ?_|refine zg2 ?_ ?_|intro _|fail)
 refine Qa (fun(i:Nat)=>⟨23,[(0,zL (endE l)),(3,.row 7),(4,zI i)],[(7,.row 172 (endE (cpyL l ⟨0,0,0⟩ i)) true)]⟩) (fun i=>i<=l.length) (fun i=>l.length-i) 0 (by exact Xab _) ?_ ?_
 ·refine⟨rfl,?_,?_,rfl⟩
  repeat'(first|exact ze3|refine ze2 ?_ ?_|refine ze4 ?_|exact ze5|fail)
  all_goals exact zp (by first|rfl|(rw[JR];exact(List.map_replicate ..).symm)|(rw[JR];simp[endE]))
 ·intro i hi
  have hcl:(endE (cpyL l ⟨0,0,0⟩ i)).length=l.length:=by rw[QC];exact Qw _ _ hi
  have hcl2:=Qw l ⟨0,0,0⟩ hi
  by_cases hi':i<l.length
  ·repeat'(first|(refine zhm fun hb=>?_;try exact zab)|refine zUtp ?_|refine zg2 ?_ ?_|refine kc (Qor (x:=nth l i)) rfl rfl ?_|intro _|fail)
   refine⟨i+1,by omega,by omega,?_⟩
   refine⟨rfl,?_,?_,rfl⟩
   repeat'(first|exact ze3|refine ze2 ?_ ?_|refine ze4 ?_|exact ze5|fail)
   all_goals exact zp (by first|rfl|exact Yl (f:=(fun e=>([.n .i64 e.id,.n .i64 e.at',.n .i64 e.why]:List D))) hi')
  ·obtain rfl:i=l.length:=by omega
   repeat'(first|(refine zhm fun hb=>?_;try exact zab)|refine zUrp ?_|refine zg2 ?_ ?_|intro _|fail)
   show AWp _ _ _ _
   refine Qs 7 rfl ?_
   refine QD ?_
   apply Qt
   refine zm () [] trivial ?_ ?_ ?_
   repeat'(first|exact ze3|refine ze2 ?_ ?_|refine ze4 ?_|exact ze5|fail)
   all_goals exact zp (by first|rfl|rw[Ym])
theorem QsP{r:Run}(h:r.nodes.length<=1048576):DC Tryz.prog 142 [runA r] [runA r]:=by
 refine zMC func142 fun w0 Z O=>?_
 repeat'(first|(refine zhm fun hb=>?_;try exact zab)|refine zUro ?_|refine zg2 ?_ ?_|refine kc (QcV (x:=r.job)) rfl rfl ?_|refine kmu (Qfu (l:=r.nodes) h) ?_|intro _|fail)
 exact zDR
def runD(r:Run):List D:=[.n .i64 r.job.id,.n .i64 r.job.prio,.n .i64 r.job.nodes,.n .i64 r.job.need.a,.n .i64 r.job.need.b,.n .i64 r.job.need.c,.n .i64 r.job.lic.a,.n .i64 r.job.lic.b,.n .i64 r.job.lic.c,.n .i64 r.job.wall,.n .i64 r.job.level,.n .i64 r.at',.sl (intE r.nodes)]
def zRun:Run:=⟨⟨0,0,0,⟨0,0,0⟩,⟨0,0,0⟩,0,0⟩,0,[]⟩
theorem QqH{l:List Run}(h:l.length<=1048576)(hr:∀j,j<l.length->(nth l j).nodes.length<=1048576):DC Tryz.prog 86 [zL (runE l)] [zL (runE l)]:=by
 refine zMC func86 fun w0 Z O=>?_
 have hl:=Qf l
 repeat'(first|(refine zhm fun hb=>?_;try exact zab)|refine zUt ?_|refine zg2 ?_ ?_|(apply YE;first|refine zom ?_|(refine QkE rfl rfl rfl rfl (by first|with_reducible rfl|exact nlit _|rfl) rfl (by first|with_reducible rfl|exact nlit _|rfl) (by omega) ⟨rfl,rfl,rfl⟩ rfl rfl rfl rfl rfl ?_))|refine zln fun _=>?_|refine zop ?_|fail)
 show AWp _ _ _ _
 refine Wm 7 rfl ?_
 refine Qa (fun(i:Nat)=>⟨23,[(0,zL (runE l)),(3,.row 7),(4,zI i)],[(7,.row 170 (runE (cpyL l zRun i)) false)]⟩) (fun i=>i<=l.length) (fun i=>l.length-i) 0 (by exact Xab _) ?_ ?_
 ·refine⟨rfl,?_,?_,rfl⟩
  repeat'(first|exact ze3|refine ze2 ?_ ?_|refine ze4 ?_|exact ze5|fail)
  all_goals exact zp (by first|rfl|(rw[JR];exact(List.map_replicate ..).symm)|(rw[JR];simp[runE,zRun,intE]))
 ·intro k hk
  have hcl:(runE (cpyL l zRun k)).length=l.length:=by rw[Qf];exact Qw _ _ hk
  have hcl2:=Qw l zRun hk
  by_cases hk':k<l.length
  ·repeat'(first|(refine zhm fun hb=>?_;try exact zab)|refine zUtp ?_|refine zg2 ?_ ?_|refine kmu (QsP (r:=nth l k) (hr k hk')) ?_|intro _|fail)
   refine⟨k+1,by omega,by omega,?_⟩
   refine zag ?_;exact zp (Yl (f:=runD) hk')
  ·obtain rfl:k=l.length:=by omega
   repeat'(first|(refine zhm fun hb=>?_;try exact zab)|refine zUrp ?_|refine zg2 ?_ ?_|intro _|fail)
   show AWp _ _ _ _
   refine Qs 7 rfl ?_
   refine QD ?_
   apply Qt
   refine zm () [] trivial ?_ ?_ ?_
   repeat'(first|exact ze3|refine ze2 ?_ ?_|refine ze4 ?_|exact ze5|fail)
   all_goals exact zp (by first|rfl|rw[Ym])
theorem QpX{t:QW}(h1:t.parents.length<=1048576)(h2:t.nodes.length<=1048576):DC Tryz.prog 83 [Yy t] [Yy t]:=by
 refine zMC func83 fun w0 Z O=>?_
 repeat'(first|(refine zhm fun hb=>?_;try exact zab)|refine zUro ?_|refine zg2 ?_ ?_|refine kmu (Qfu (l:=t.parents) h1) ?_|refine kmu (Qnu (l:=t.nodes) h2) ?_|intro _|fail)
 exact zDR
theorem Z2{s:Qd}(h:Ql 1048576 s):DC Tryz.prog 30 [Qx s] [Qx s]:=by
 refine zMC func30 fun w0 Z O=>?_
 repeat'(first|(refine zhm fun hb=>?_;try exact zab)|refine zUro ?_|refine zg2 ?_ ?_|refine kc (Qa1 (x:=s.lic)) rfl rfl ?_|refine kmu (QpX (t:=s.topo) h.par h.nod) ?_|refine kmu (Qnm (l:=s.up) h.up) ?_|refine kmu (Qqr (l:=s.queue) h.que) ?_|refine kmu (QqH (l:=s.runs) h.run h.rno) ?_|refine kmu (Qrn (l:=s.ends) h.end') ?_|intro _|fail)
 exact zDR
theorem Qfh{x:V3}:zAc 92 [vecA x,vecA x] [.d (.b true)] []:=by
 refine zAC func92 fun w0 Z=>?_
 repeat'(first|(refine zhm fun hb=>?_;try exact zab)|refine zUto ?_|refine zg2 ?_ ?_|intro _|fail)
 all_goals first|exact absurd rfl (by assumption)|skip
 exact zrr
theorem QkW{x:X6}:zAc 216 [Qru x,Qru x] [.d (.b true)] []:=by
 refine zAC func216 fun w0 Z=>?_
 repeat'(first|(refine zhm fun hb=>?_;try exact zab)|refine zUto ?_|refine zg2 ?_ ?_|refine kc (Qfh (x:=x.cap)) rfl rfl ?_|intro _|fail)
 all_goals first|exact absurd rfl (by assumption)|skip
 exact zrr
theorem Qjv{x:Job}:zAc 147 [jobA x,jobA x] [.d (.b true)] []:=by
 refine zAC func147 fun w0 Z=>?_
 repeat'(first|(refine zhm fun hb=>?_;try exact zab)|refine zUto ?_|refine zg2 ?_ ?_|refine kc (Qfh (x:=x.need)) rfl rfl ?_|refine kc (Qfh (x:=x.lic)) rfl rfl ?_|intro _|fail)
 all_goals first|exact absurd rfl (by assumption)|skip
 exact zrr
theorem QmJ{x:Qb5}:zAc 149 [endA x,endA x] [.d (.b true)] []:=by
 refine zAC func149 fun w0 Z=>?_
 repeat'(first|(refine zhm fun hb=>?_;try exact zab)|refine zUto ?_|refine zg2 ?_ ?_|intro _|fail)
 all_goals first|exact absurd rfl (by assumption)|skip
 exact zrr
theorem QfY{l:List Int}(h:l.length<=1000000000) :zAc 68 [zL (intE l),zL (intE l)] [.d (.b true)] []:=by
 refine zAC func68 fun w0 Z=>?_
 have hl:=Qb l
 repeat'(first|(refine zhm fun hb=>?_;try exact zab)|refine Qe ?_|(apply zch;exact zcg)|exact zhk|refine zg3 ?_ ?_|intro _|fail)
 all_goals first|exact absurd rfl (by assumption)|skip
 refine Qa (fun(i:Nat)=>⟨26,[(0,zL (intE l)),(1,zL (intE l)),(5,zI i)],[]⟩) (fun i=>i<=l.length) (fun i=>l.length-i) 0 (by exact Xab _) ?_ ?_
 ·exact zll
 ·intro i hi
  by_cases hi':i<l.length
  ·repeat'(first|(refine zhm fun hb=>?_;try exact zab)|refine Qe ?_|(apply zch;exact zcg)|exact zhk|refine zg3 ?_ ?_|intro _|fail)
   all_goals first|exact absurd rfl (by assumption)|skip
   exact⟨i+1,by omega,by omega,zll⟩
  ·repeat'(first|(refine zhm fun hb=>?_;try exact zab)|refine Qe ?_|(apply zch;exact zcg)|exact zhk|refine zg3 ?_ ?_|intro _|fail)
   exact zrr
theorem Qmw{l:List Bool}(h:l.length<=1000000000) :zAc 91 [zL (Qq l),zL (Qq l)] [.d (.b true)] []:=by
 refine zAC func91 fun w0 Z=>?_
 have hl:=Qo l
 repeat'(first|(refine zhm fun hb=>?_;try exact zab)|refine Qe ?_|(apply zch;exact zcg)|exact zhk|refine zg3 ?_ ?_|intro _|fail)
 all_goals first|exact absurd rfl (by assumption)|skip
 refine Qa (fun(i:Nat)=>⟨26,[(0,zL (Qq l)),(1,zL (Qq l)),(5,zI i)],[]⟩) (fun i=>i<=l.length) (fun i=>l.length-i) 0 (by exact Xab _) ?_ ?_
 ·exact zll
 ·intro i hi
  by_cases hi':i<l.length
  ·repeat'(first|(refine zhm fun hb=>?_;try exact zab)|refine Qe ?_|(apply zch;exact zcg)|exact zhk|refine zg3 ?_ ?_|intro _|fail)
   all_goals first|exact absurd rfl (by assumption)|skip
   exact⟨i+1,by omega,by omega,zll⟩
  ·repeat'(first|(refine zhm fun hb=>?_;try exact zab)|refine Qe ?_|(apply zch;exact zcg)|exact zhk|refine zg3 ?_ ?_|intro _|fail)
   exact zrr
theorem QnP{l:List X6}(h:l.length<=1000000000) :zAc 146 [zL (Qz l),zL (Qz l)] [.d (.b true)] []:=by
 refine zAC func146 fun w0 Z=>?_
 have hl:=Qr l
 repeat'(first|(refine zhm fun hb=>?_;try exact zab)|refine Qe ?_|(apply zch;exact zcg)|exact zhk|refine zg3 ?_ ?_|intro _|fail)
 all_goals first|exact absurd rfl (by assumption)|skip
 refine Qa (fun(i:Nat)=>⟨27,[(0,zL (Qz l)),(1,zL (Qz l)),(5,zI i)],[]⟩) (fun i=>i<=l.length) (fun i=>l.length-i) 0 (by exact Xab _) ?_ ?_
 ·exact zll
 ·intro i hi
  by_cases hi':i<l.length
  ·repeat'(first|(refine zhm fun hb=>?_;try exact zab)|refine Qe ?_|(apply zch;exact zcg)|exact zhk|refine zg3 ?_ ?_|refine kc (QkW (x:=nth l i)) rfl rfl ?_|refine kq (QkW (x:=nth l i)) rfl rfl ?_|intro _|fail)
   all_goals first|exact absurd rfl (by assumption)|skip
   exact⟨i+1,by omega,by omega,zll⟩
  ·repeat'(first|(refine zhm fun hb=>?_;try exact zab)|refine Qe ?_|(apply zch;exact zcg)|exact zhk|refine zg3 ?_ ?_|intro _|fail)
   exact zrr
theorem Qp3{l:List Job}(h:l.length<=1000000000) :zAc 93 [zL (jobE l),zL (jobE l)] [.d (.b true)] []:=by
 refine zAC func93 fun w0 Z=>?_
 have hl:=Qk l
 repeat'(first|(refine zhm fun hb=>?_;try exact zab)|refine Qe ?_|(apply zch;exact zcg)|exact zhk|refine zg3 ?_ ?_|intro _|fail)
 all_goals first|exact absurd rfl (by assumption)|skip
 refine Qa (fun(i:Nat)=>⟨27,[(0,zL (jobE l)),(1,zL (jobE l)),(5,zI i)],[]⟩) (fun i=>i<=l.length) (fun i=>l.length-i) 0 (by exact Xab _) ?_ ?_
 ·exact zll
 ·intro i hi
  by_cases hi':i<l.length
  ·repeat'(first|(refine zhm fun hb=>?_;try exact zab)|refine Qe ?_|(apply zch;exact zcg)|exact zhk|refine zg3 ?_ ?_|refine kc (Qjv (x:=nth l i)) rfl rfl ?_|refine kq (Qjv (x:=nth l i)) rfl rfl ?_|intro _|fail)
   all_goals first|exact absurd rfl (by assumption)|skip
   exact⟨i+1,by omega,by omega,zll⟩
  ·repeat'(first|(refine zhm fun hb=>?_;try exact zab)|refine Qe ?_|(apply zch;exact zcg)|exact zhk|refine zg3 ?_ ?_|intro _|fail)
   exact zrr
theorem Qqz{l:List Qb5}(h:l.length<=1000000000) :zAc 95 [zL (endE l),zL (endE l)] [.d (.b true)] []:=by
 refine zAC func95 fun w0 Z=>?_
 have hl:=QC l
 repeat'(first|(refine zhm fun hb=>?_;try exact zab)|refine Qe ?_|(apply zch;exact zcg)|exact zhk|refine zg3 ?_ ?_|intro _|fail)
 all_goals first|exact absurd rfl (by assumption)|skip
 refine Qa (fun(i:Nat)=>⟨27,[(0,zL (endE l)),(1,zL (endE l)),(5,zI i)],[]⟩) (fun i=>i<=l.length) (fun i=>l.length-i) 0 (by exact Xab _) ?_ ?_
 ·exact zll
 ·intro i hi
  by_cases hi':i<l.length
  ·repeat'(first|(refine zhm fun hb=>?_;try exact zab)|refine Qe ?_|(apply zch;exact zcg)|exact zhk|refine zg3 ?_ ?_|refine kc (QmJ (x:=nth l i)) rfl rfl ?_|refine kq (QmJ (x:=nth l i)) rfl rfl ?_|intro _|fail)
   all_goals first|exact absurd rfl (by assumption)|skip
   exact⟨i+1,by omega,by omega,zll⟩
  ·repeat'(first|(refine zhm fun hb=>?_;try exact zab)|refine Qe ?_|(apply zch;exact zcg)|exact zhk|refine zg3 ?_ ?_|intro _|fail)
   exact zrr
theorem Qn7{r:Run}(h:r.nodes.length<=1000000000):zAc 148 [runA r,runA r] [.d (.b true)] []:=by
 refine zAC func148 fun w0 Z=>?_
 repeat'(first|(refine zhm fun hb=>?_;try exact zab)|refine zUto ?_|refine zg2 ?_ ?_|refine kc (Qjv (x:=r.job)) rfl rfl ?_|refine kc (QfY (l:=r.nodes) h) rfl rfl ?_|intro _|fail)
 all_goals first|exact absurd rfl (by assumption)|skip
 exact zrr
theorem Qqa{l:List Run}(h:l.length<=1000000000)(hr:∀j,j<l.length->(nth l j).nodes.length<=1000000000):zAc 94 [zL (runE l),zL (runE l)] [.d (.b true)] []:=by
 refine zAC func94 fun w0 Z=>?_
 have hl:=Qf l
 repeat'(first|(refine zhm fun hb=>?_;try exact zab)|refine Qe ?_|(apply zch;exact zcg)|exact zhk|refine zg3 ?_ ?_|intro _|fail)
 all_goals first|exact absurd rfl (by assumption)|skip
 refine Qa (fun(i:Nat)=>⟨27,[(0,zL (runE l)),(1,zL (runE l)),(5,zI i)],[]⟩) (fun i=>i<=l.length) (fun i=>l.length-i) 0 (by exact Xab _) ?_ ?_
 ·exact zll
 ·intro i hi
  by_cases hi':i<l.length
  ·repeat'(first|(refine zhm fun hb=>?_;try exact zab)|refine Qe ?_|(apply zch;exact zcg)|exact zhk|refine zg3 ?_ ?_|refine kc (Qn7 (r:=nth l i) (hr i hi')) rfl rfl ?_|refine kq (Qn7 (r:=nth l i) (hr i hi')) rfl rfl ?_|intro _|fail)
   all_goals first|exact absurd rfl (by assumption)|skip
   exact⟨i+1,by omega,by omega,zll⟩
  ·repeat'(first|(refine zhm fun hb=>?_;try exact zab)|refine Qe ?_|(apply zch;exact zcg)|exact zhk|refine zg3 ?_ ?_|intro _|fail)
   exact zrr
theorem QqG{t:QW}(h1:t.parents.length<=1000000000)(h2:t.nodes.length<=1000000000):zAc 90 [Yy t,Yy t] [.d (.b true)] []:=by
 refine zAC func90 fun w0 Z=>?_
 repeat'(first|(refine zhm fun hb=>?_;try exact zab)|refine zUto ?_|refine zg2 ?_ ?_|refine kc (QfY (l:=t.parents) h1) rfl rfl ?_|refine kc (QnP (l:=t.nodes) h2) rfl rfl ?_|intro _|fail)
 exact zrr
theorem WX{s:Qd}(h:Ql 1000000000 s):zAc 33 [Qx s,Qx s] [.d (.b true)] []:=by
 refine zAC func33 fun w0 Z=>?_
 repeat'(first|(refine zhm fun hb=>?_;try exact zab)|refine zUto ?_|refine zg2 ?_ ?_|refine kc (QqG (t:=s.topo) h.par h.nod) rfl rfl ?_|refine kc (Qmw (l:=s.up) h.up) rfl rfl ?_|refine kc (Qfh (x:=s.lic)) rfl rfl ?_|refine kc (Qp3 (l:=s.queue) h.que) rfl rfl ?_|refine kc (Qqa (l:=s.runs) h.run h.rno) rfl rfl ?_|refine kc (Qqz (l:=s.ends) h.end') rfl rfl ?_|intro _|fail)
 all_goals first|exact absurd rfl (by assumption)|skip
 exact zrr
end
end Go.Proofs.YtihgfennoalocaaGreat
