/-
  The law's own functions over states: the size, the copy, equality with itself.
-/
import Derived.Test.YtelbahebpmkfjaaGreatKB7
import Derived.Test.YtelbahebpmkfjaaGreatKB11
set_option maxRecDepth 100000
set_option maxHeartbeats 16000000
namespace Go.Proofs.YtelbahebpmkfjaaGreat
open Go Go.RowKit

theorem Qc5 (p:Nat) {X:Cx} {c:Code} {Q:Exit→AS→Prop} {σ:AS} {e:TypeId} {es:List (List D)} {dp:Bool} (hp:Qam σ.ob p=some (.row e es dp)) (h:AWp X c Q ⟨σ.nt,σ.sl,(p,.row e es false)::QbA p σ.ob⟩):AWp X c Q σ:=by
 intro a w hr
 obtain ⟨en,h1⟩:=hr
 obtain ⟨y,hy,hyn,hya⟩:=h1.ent hp
 have hok:=h1.mem.ok y hy
 unfold EntOk at hok
 rw [hya] at hok
 obtain ⟨z,us,k0,k1,k2,k3,k4,k5,k6,k7⟩:=hok
 have hs:Swap X.P X.w0 X.Z X.O en w w p ⟨p,.row e es false,y.val,y.fs⟩ (fun _=>true):=
  ⟨h1.mem,fun _ _=>rfl,fun _ x hx e=>by
    have:=h1.mem.ent_unique hx hy (e.trans hyn.symm)
    subst this
    exact ⟨e.symm,rfl,by rw [hya];rfl,by rw [hya];rfl⟩,rfl,rfl,rfl,Nat.le_refl _,
   fun b hb hno=>rfl,fun b hb=>.inr ⟨y,hy,hyn,by
   rcases hb with hb|⟨hd,_⟩
   ·exact .inl hb
   ·cases hd⟩,rfl,hyn▸h1.mem.fix y hy⟩
 have h2:=h1.swap_keep hs (by
  unfold EntOk
  exact ⟨z,us,k0,k1,k2,k3,k4,fun _ b hb=>hs.imm_fs hy hyn (by rw [hya];rfl) k5 (fun hd=>(k7 hd).2.1) (fun hd b hb hq=>by
   rcases hq with hq|⟨hq,_⟩
   ·exact ((k7 hd).2.1 b hb).2.2 hq
   ·cases hq) b hb,k6,fun h=>by cases h⟩) (fun hd=>by cases hd)
 exact h a w ⟨_,h2⟩
theorem Qn3 {X:Cx} {σ:AS} {o:Oper} {K:AS→Prop} {t:Nat} {T e:TypeId} {x y:Operand} {p q:Int} {n:Nat} {zd:List D} [te:TI X.P e] (ho:o.op=.makeSlice T x y) (hd:o.dst=some t) (hT:QaZ X T=some e) (hx:σ.ev x=.d (.n .i64 p)) (hp:p=(n:Int)) (hy:σ.ev y=.d (.n .i64 q)) (hq:q=(n:Int)) (hb:n≤1099511627776)
  (hk:ElemOk te) (hzd:(QbX (Qde te.zero)).bind (fun l=>Qd2 l some)=some zd) (hfl:zd.all D.flat=true) (hlz:Nat.beq zd.length te.size=true) (hf:QbG X.fre t σ.ob=true) (ht:Nat.blt t σ.nt=true)
  (hK:K ⟨σ.nt,(t,.row t)::σ.sl,(t,.row e (List.replicate n zd) true)::QbA t σ.ob⟩):OpOk X o σ K:=
 QgK (ao:=.row e (List.replicate n zd) true) hd ht hf (fun a w en h1=>by
  have hzd:QbX (Qde te.zero)=some zd:=by
   cases hz:QbX (Qde te.zero) with
   | none=>rw [hz] at hzd;cases hzd
   | some l=>rw [hz,Option.bind_some,QeJ] at hzd;exact hzd
  subst hp;subst hq
  have hu:=QaN hT
  obtain ⟨i,q1,q2,q3,q4⟩:=te.parts
  have hpos:=Qa7 hk.pos
  have hzc:te.zero.cells.size=te.size:=(Qai _ _).1 hk.zero
  have hmade:=Qd7 te.zero.cells n (by omega)
  obtain ⟨F,⟨e1,_⟩,_⟩:=QaS h1 hx
  obtain ⟨G,⟨e2,_⟩,_⟩:=QaS h1 hy
  obtain ⟨F',k1,k2⟩:=QbZ (w:=w) (en:=en) (I:=IM X en w) hzd (Qcd te.zero.cells.toList)
  have hF:F'=[]:=Qbi k1 hfl
  subst hF
  have hzl:zd.length=te.size:=(Qai _ _).1 hlz
  have hby:te.bytes≤128:=Nat.le_of_ble_eq_true hk.bytes
  have hr:=run_make (P:=X.P) w T e i te.zero hu q1 q2 .i64 .i64 n n (by omega) (Int.le_refl _) (by
   rw [q4]
   have:te.bytes * n≤128 * 1099511627776:=Nat.mul_le_mul hby hb
   have h2:((te.bytes * n:Nat):Int)≤281474976710656:=by omega
   rwa [Int.natCast_mul] at h2) (by omega)
  simp only [Int.toNat_natCast] at hr
  refine ⟨.slice (some ⟨w.heap.size,0,none⟩) n n,[],w.alloc (.cells (madeCells te.zero.cells (n * i.size)) e),?_,Ext.alloc_ w _,fun en' he=>⟨_,he,rfl,rfl,rfl⟩,fun b hb=>?_,fun hI hTr=>?_,fun _=>rfl⟩
  ·simp only [execOp,ho,e1,e2,Sem.run_bind,hr,Result.andThen]
   rfl
  ·simp only [blk,Option.some.injEq] at hb
   exact Nat.le_of_eq hb
  ·unfold EntOk
   have hl:(madeCells te.zero.cells (n * i.size)).toList=(List.replicate n te.zero.cells.toList).flatten:=by rw [q3,←hzc];exact hmade
   refine ⟨te.size,(List.replicate n te.zero.cells.toList).flatten,te.sized,hpos,?_,fun el hel=>?_,QaF (Ext.alloc_ w _).size _ _ _ (QbQ k1 n) (by simp),by simp,fun g hg=>?_,fun _=>⟨by simp,by simp,NstL.nilE (QaF (Ext.alloc_ w _).size _ _ _ (QbQ k1 n) (by simp))⟩⟩
   ·rw [List.length_replicate]
    have hsz:(madeCells te.zero.cells (n * i.size)).size=n * te.size:=by rw [size_madeCells,q3]
    have hsz2:(List.replicate n te.zero.cells.toList).flatten.length=n * te.size:=by rw [←hl,Array.length_toList,hsz]
    refine ⟨hsz2,.inr ⟨w.heap.size,n,_,rfl,Nat.zero_le _,heap_alloc_new w _,Nat.le_refl _,by unfold maxLen;omega,hsz,?_⟩⟩
    rw [hl,←hsz2]
    exact List.take_length
   ·rw [List.eq_of_mem_replicate hel];exact hzl
   ·simp only [blk,Option.some.injEq] at hg
    subst hg
    exact .inr h1.mem.size) hK
attribute [local irreducible] AWp Qat OpOk ACalls ChA QsOk MCalls EnC PY
theorem Qgr {α:Type} {f:α→List D} {p:α→Prop}:∀{es:List (List D)},(∀q∈es,∃r,q=f r∧p r)→∃l:List α,es=l.map f∧∀r∈l,p r
 | [],_=>⟨[],rfl,by simp⟩
 | e::es,h=>by
  obtain ⟨r,rfl,h1⟩:=h _ List.mem_cons_self
  obtain ⟨l,rfl,h2⟩:=Qgr (es:=es) fun q hq=>h q (List.mem_cons_of_mem _ hq)
  refine ⟨r::l,rfl,fun s hs=>?_⟩
  rcases List.mem_cons.1 hs with rfl|hs
  ·exact h1
  ·exact h2 s hs
@[reducible] def QtU (n:Node):AV:=.agg [.d (.n .i64 n.leaf),.d (.n .i64 n.cap.a),.d (.n .i64 n.cap.b),.d (.n .i64 n.cap.c)]
@[reducible] def runA (r:Run):AV:=.agg [.d (.n .i64 r.job.id),.d (.n .i64 r.job.prio),.d (.n .i64 r.job.nodes),.d (.n .i64 r.job.need.a),.d (.n .i64 r.job.need.b),.d (.n .i64 r.job.need.c),.d (.n .i64 r.job.lic.a),.d (.n .i64 r.job.lic.b),.d (.n .i64 r.job.lic.c),.d (.n .i64 r.job.wall),.d (.n .i64 r.job.level),.d (.n .i64 r.at'),.d (.sl (intE r.nodes))]
@[reducible] def endA (e:EndS):AV:=.agg [.d (.n .i64 e.id),.d (.n .i64 e.at'),.d (.n .i64 e.why)]
theorem Qnc {l:List Run} {j:Nat} (h:j<l.length):(runE l)[j]?=some [.n .i64 (nth l j).job.id,.n .i64 (nth l j).job.prio,.n .i64 (nth l j).job.nodes,.n .i64 (nth l j).job.need.a,.n .i64 (nth l j).job.need.b,.n .i64 (nth l j).job.need.c,.n .i64 (nth l j).job.lic.a,.n .i64 (nth l j).job.lic.b,.n .i64 (nth l j).job.lic.c,.n .i64 (nth l j).job.wall,.n .i64 (nth l j).job.level,.n .i64 (nth l j).at',.sl (intE (nth l j).nodes)]:=QeK h
theorem QeI (l:List Int):(intE l).length=l.length:=Qad l
theorem Qj0 {l:List Int} {x:Int} (h:l.length≤9223372036854775807) (hx:0≤x∧x≤1048576):SC Tryz.prog 94 (.d (.sl (intE l))) x (l.length≤1048576):=by
 refine Qag tt Tryz.func94 rfl rfl rfl trivial (fun _ _=>⟨trivial,trivial⟩) (fun w0 Z O=>?_)
 have hl:=Qad l
 repeat' (first|refine zst ?_|(refine zhm fun hb=>?_;try exact zab)|refine zg2 ?_ ?_|refine zln fun _=>?_|refine zop ?_|fail)
 ·exact zm (-1) [] (by exact ⟨by omega,fun h=>by omega⟩) zae zae zae
 ·exact zm (x - l.length) [] (by exact ⟨by omega,fun _=>by omega⟩) zae zae zae
theorem Qss {l:List Node} {x:Int} (h:l.length≤9223372036854775807) (hx:0≤x∧x≤1048576):SC Tryz.prog 163 (.d (.sl (QaD l))) x (l.length≤1048576):=by
 refine Qag tt Tryz.func163 rfl rfl rfl trivial (fun _ _=>⟨trivial,trivial⟩) (fun w0 Z O=>?_)
 have hl:=Qar l
 repeat' (first|refine zst ?_|(refine zhm fun hb=>?_;try exact zab)|refine zg2 ?_ ?_|refine zln fun _=>?_|refine zop ?_|fail)
 ·exact zm (-1) [] (by exact ⟨by omega,fun h=>by omega⟩) zae zae zae
 ·exact zm (x - l.length) [] (by exact ⟨by omega,fun _=>by omega⟩) zae zae zae
theorem QrY {l:List Bool} {x:Int} (h:l.length≤9223372036854775807) (hx:0≤x∧x≤1048576):SC Tryz.prog 65 (.d (.sl (Qaw l))) x (l.length≤1048576):=by
 refine Qag tt Tryz.func65 rfl rfl rfl trivial (fun _ _=>⟨trivial,trivial⟩) (fun w0 Z O=>?_)
 have hl:=Qaq l
 repeat' (first|refine zst ?_|(refine zhm fun hb=>?_;try exact zab)|refine zg2 ?_ ?_|refine zln fun _=>?_|refine zop ?_|fail)
 ·exact zm (-1) [] (by exact ⟨by omega,fun h=>by omega⟩) zae zae zae
 ·exact zm (x - l.length) [] (by exact ⟨by omega,fun _=>by omega⟩) zae zae zae
theorem Qtp {l:List Job} {x:Int} (h:l.length≤9223372036854775807) (hx:0≤x∧x≤1048576):SC Tryz.prog 66 (.d (.sl (jobE l))) x (l.length≤1048576):=by
 refine Qag tt Tryz.func66 rfl rfl rfl trivial (fun _ _=>⟨trivial,trivial⟩) (fun w0 Z O=>?_)
 have hl:=Qak l
 repeat' (first|refine zst ?_|(refine zhm fun hb=>?_;try exact zab)|refine zg2 ?_ ?_|refine zln fun _=>?_|refine zop ?_|fail)
 ·exact zm (-1) [] (by exact ⟨by omega,fun h=>by omega⟩) zae zae zae
 ·exact zm (x - l.length) [] (by exact ⟨by omega,fun _=>by omega⟩) zae zae zae
theorem Qtb {l:List EndS} {x:Int} (h:l.length≤9223372036854775807) (hx:0≤x∧x≤1048576):SC Tryz.prog 68 (.d (.sl (endE l))) x (l.length≤1048576):=by
 refine Qag tt Tryz.func68 rfl rfl rfl trivial (fun _ _=>⟨trivial,trivial⟩) (fun w0 Z O=>?_)
 have hl:=QaC l
 repeat' (first|refine zst ?_|(refine zhm fun hb=>?_;try exact zab)|refine zg2 ?_ ?_|refine zln fun _=>?_|refine zop ?_|fail)
 ·exact zm (-1) [] (by exact ⟨by omega,fun h=>by omega⟩) zae zae zae
 ·exact zm (x - l.length) [] (by exact ⟨by omega,fun _=>by omega⟩) zae zae zae
theorem Qv1 {r:Run} {x:Int} (h:r.nodes.length≤9223372036854775807) (hx:0≤x∧x≤1048576):SC Tryz.prog 164 (runA r) x (r.nodes.length≤1048576):=by
 refine Qag tt Tryz.func164 rfl rfl rfl trivial (fun _ _=>⟨trivial,trivial⟩) (fun w0 Z O=>?_)
 repeat' (first|refine zst ?_|(refine zhm fun hb=>?_;try exact zab)|refine zg2 ?_ ?_|refine zop ?_|(refine km [] (Qj0 (l:=r.nodes) (x:=x) h hx) rfl rfl (fun i hi=>?_);(try dsimp only at hi))|fail)
 ·exact zm (-1) [] (by exact ⟨by omega,fun h=>by omega⟩) zae zae zae
 ·exact zm i [] (by exact ⟨hi.1,hi.2⟩) zae zae zae
theorem Qts {l:List Run} {x:Int} (h:l.length≤9223372036854775807) (hr:∀j,j<l.length→(nth l j).nodes.length≤9223372036854775807) (hx:0≤x∧x≤1048576):SC Tryz.prog 67 (.d (.sl (runE l))) x (l.length≤1048576∧∀j,j<l.length→(nth l j).nodes.length≤1048576):=by
 refine Qag tt Tryz.func67 rfl rfl rfl trivial (fun _ _=>⟨trivial,trivial⟩) (fun w0 Z O=>?_)
 have hl:=Qah l
 repeat' (first|refine zst ?_|(refine zhm fun hb=>?_;try exact zab)|refine zg2 ?_ ?_|refine zln fun _=>?_|refine zop ?_|fail)
 ·exact zm (-1) [] (by exact ⟨by omega,fun h=>by omega⟩) zae zae zae
 ·refine Qae (fun (k:Nat×Int)=>⟨27,[(0,.d (.sl (runE l))),(1,.d (.n .i64 k.2)),(5,.d (.n .i64 k.1))],[]⟩) (fun k=>k.1≤l.length∧(0≤k.2∧k.2≤x - l.length)∧∀j,j<k.1→(nth l j).nodes.length≤1048576) (fun k=>l.length - k.1) (0,x - l.length) (by exact ⟨Nat.zero_le _,⟨by omega,Int.le_refl _⟩,fun j hj=>absurd hj (Nat.not_lt_zero _)⟩) ?_ ?_
  ·refine ⟨rfl,?_,?_,rfl⟩
   repeat'(first|apply And.intro|exact ze0|refine ze1 ?_|refine zei ?_ ?_|exact rfl|trivial)
   all_goals exact Stop.mk (by first|rfl|(dsimp only;omega))
  ·rintro ⟨n,y⟩ ⟨h1,h2,h3⟩
   dsimp only at h1 h2 h3 ⊢
   by_cases hn:n<l.length
   ·repeat' (first|refine zst ?_|(refine zhm fun hb=>?_;try exact zab)|refine zg2 ?_ ?_|refine zln fun _=>?_|refine zop ?_|(refine km [] (Qv1 (r:=nth l n) (x:=y) (hr n hn) (by omega)) rfl rfl (fun i hi=>?_);(try dsimp only at hi))|fail)
    ·exact zm (-1) [] (by exact ⟨by omega,fun h=>by omega⟩) zae zae zae
    ·refine ⟨(n+1,i),⟨by omega,by dsimp only;omega,fun j hj=>?_⟩,by dsimp only;omega,?_⟩
     ·by_cases e:j=n
      ·subst e;exact hi.2 (by omega)
      ·exact h3 j (by dsimp only at hj;omega)
     exact ⟨rfl,zae,zae,rfl⟩
   ·repeat' (first|refine zst ?_|(refine zhm fun hb=>?_;try exact zab)|refine zg2 ?_ ?_|refine zln fun _=>?_|refine zop ?_|fail)
    exact zm y [] (by exact ⟨by omega,fun _=>⟨by omega,fun j hj=>h3 j (by omega)⟩⟩) zae zae zae
theorem Qt8 {t:Topo} {x:Int} (h1:t.parents.length≤9223372036854775807) (h2:t.nodes.length≤9223372036854775807) (hx:0≤x∧x≤1048576):SC Tryz.prog 64 (Qcw t) x (t.parents.length≤1048576∧t.nodes.length≤1048576):=by
 refine Qag tt Tryz.func64 rfl rfl rfl trivial (fun _ _=>⟨trivial,trivial⟩) (fun w0 Z O=>?_)
 repeat' (first|refine zst ?_|(refine zhm fun hb=>?_;try exact zab)|refine zg2 ?_ ?_|refine zop ?_|(refine km [] (Qj0 (l:=t.parents) (x:=x) h1 hx) rfl rfl (fun i hi=>?_);(try dsimp only at hi))|(refine km [] (Qss (l:=t.nodes) h2 (by omega)) rfl rfl (fun i hi=>?_);(try dsimp only at hi))|fail)
 ·exact zm (-1) [] (by exact ⟨by omega,fun h=>by omega⟩) zae zae zae
 ·exact zm (-1) [] (by exact ⟨by omega,fun h=>by omega⟩) zae zae zae
 ·rename_i i0 hi0 _
  exact zm i [] (by exact ⟨by omega,fun _=>⟨hi0.2 (by omega),hi.2 (by omega)⟩⟩) zae zae zae
theorem QfU {s:State} {x:Int} (h:Small 9223372036854775807 s) (hx:0≤x∧x≤1048576):SC Tryz.prog 15 (QaA s) x (Small 1048576 s):=by
 refine Qag tt Tryz.func15 rfl rfl rfl trivial (fun _ _=>⟨trivial,trivial⟩) (fun w0 Z O=>?_)
 repeat' (first|refine zst ?_|(refine zhm fun hb=>?_;try exact zab)|refine zg2 ?_ ?_|refine zop ?_|(refine km [] (Qt8 (t:=s.topo) (x:=x) h.par h.nod hx) rfl rfl (fun i hi=>?_);(try dsimp only at hi))|(refine km [] (QrY (l:=s.up) h.up (by omega)) rfl rfl (fun i hi=>?_);(try dsimp only at hi))|(refine km [] (Qtp (l:=s.queue) h.que (by omega)) rfl rfl (fun i hi=>?_);(try dsimp only at hi))|(refine km [] (Qts (l:=s.runs) h.run h.rno (by omega)) rfl rfl (fun i hi=>?_);(try dsimp only at hi))|(refine km [] (Qtb (l:=s.ends) h.end' (by omega)) rfl rfl (fun i hi=>?_);(try dsimp only at hi))|fail)
 ·exact zm (-1) [] (by exact ⟨by omega,fun h=>by omega⟩) zae zae zae
 ·exact zm (-1) [] (by exact ⟨by omega,fun h=>by omega⟩) zae zae zae
 ·exact zm (-1) [] (by exact ⟨by omega,fun h=>by omega⟩) zae zae zae
 ·exact zm (-1) [] (by exact ⟨by omega,fun h=>by omega⟩) zae zae zae
 ·exact zm (-1) [] (by exact ⟨by omega,fun h=>by omega⟩) zae zae zae
 ·rename_i i0 hi0 _ i1 hi1 _ i2 hi2 _ i3 hi3 _
  exact zm i [] (by exact ⟨by omega,fun _=>⟨(hi0.2 (by omega)).1,(hi0.2 (by omega)).2,hi1.2 (by omega),hi2.2 (by omega),(hi3.2 (by omega)).1,hi.2 (by omega),(hi3.2 (by omega)).2⟩⟩) zae zae zae
theorem Qc7 {s:State} (h:Small 9223372036854775807 s):SC Tryz.prog 15 (QaA s) 1048576 (Small 1048576 s):=QfU h (by omega)
theorem QgC {x:V3}:ACalls Tryz.prog 73 [vecA x] [vecA x] []:=by
 refine Qaa tt Tryz.func73 rfl rfl rfl (fun w0 Z=>?_)
 repeat' (first|refine zst ?_|(refine zhm fun hb=>?_;try exact zab)|refine zg2 ?_ ?_|refine zop ?_|fail)
 exact zr [] zae zae
theorem QoJ {x:Node}:ACalls Tryz.prog 237 [QtU x] [QtU x] []:=by
 refine Qaa tt Tryz.func237 rfl rfl rfl (fun w0 Z=>?_)
 repeat' (first|refine zst ?_|(refine zhm fun hb=>?_;try exact zab)|refine zg2 ?_ ?_|refine zop ?_|refine kc (QgC (x:=x.cap)) rfl rfl ?_|fail)
 exact zr [] zae zae
theorem Qh1 {x:Job}:ACalls Tryz.prog 121 [jobA x] [jobA x] []:=by
 refine Qaa tt Tryz.func121 rfl rfl rfl (fun w0 Z=>?_)
 repeat' (first|refine zst ?_|(refine zhm fun hb=>?_;try exact zab)|refine zg2 ?_ ?_|refine zop ?_|refine kc (QgC (x:=x.need)) rfl rfl ?_|refine kc (QgC (x:=x.lic)) rfl rfl ?_|fail)
 exact zr [] zae zae
theorem QsC {x:EndS}:ACalls Tryz.prog 167 [endA x] [endA x] []:=by
 refine Qaa tt Tryz.func167 rfl rfl rfl (fun w0 Z=>?_)
 repeat' (first|refine zst ?_|(refine zhm fun hb=>?_;try exact zab)|refine zg2 ?_ ?_|refine zop ?_|fail)
 exact zr [] zae zae
theorem Qj7 {l:List Int} (h:l.length≤1048576):DC Tryz.prog 97 [.d (.sl (intE l))] [.d (.sl (intE l))]:=by
 refine Qag tt Tryz.func97 rfl rfl rfl trivial (fun _ _=>⟨trivial,trivial⟩) (fun w0 Z O=>?_)
 have hl:=Qad l
 repeat' (first|refine zst ?_|(refine zhm fun hb=>?_;try exact zab)|refine zg2 ?_ ?_|refine zln fun _=>?_|refine zop ?_|fail)
 refine Qae (fun (i:Nat)=>⟨22,[(0,.d (.sl (intE l))),(3,.row 7),(4,.d (.n .i64 i))],[(7,.row 3 (intE (cpyL l 0 i)) true)]⟩) (fun i=>i≤l.length) (fun i=>l.length - i) 0 (by exact Nat.zero_le _) ?_ ?_
 ·refine ⟨rfl,?_,?_,rfl⟩
  repeat'(first|apply And.intro|exact ze0|refine ze1 ?_|refine zei ?_ ?_|exact rfl|trivial)
  all_goals exact Stop.mk (by first|rfl|(rw [QbE];exact (List.map_replicate ..).symm)|(rw [QbE];simp [intE]))
 ·intro i hi
  have hcl:(intE (cpyL l 0 i)).length=l.length:=by rw [Qad];exact Qay _ _ hi
  have hcl2:=Qay l 0 hi
  by_cases hi':i<l.length
  ·repeat' (first|refine zst ?_|(refine zhm fun hb=>?_;try exact zab)|refine zg2 ?_ ?_|refine zln fun _=>?_|refine zop ?_|fail)
   refine ⟨i+1,by omega,by omega,?_⟩
   refine ⟨rfl,?_,?_,rfl⟩
   repeat'(first|apply And.intro|exact ze0|refine ze1 ?_|refine zei ?_ ?_|exact rfl|trivial)
   all_goals exact Stop.mk (by first|rfl|exact Qcf (f:=(fun x=>([.n .i64 x]:List D))) hi')
  ·obtain rfl:i=l.length:=by omega
   repeat' (first|refine zsr ?_|(refine zhm fun hb=>?_;try exact zab)|refine zg2 ?_ ?_|refine zln fun _=>?_|refine zop ?_|fail)
   show AWp _ _ _ _
   refine Qav 7 rfl ?_
   refine Qac ?_
   apply Qab
   refine zm () [] trivial ?_ ?_ ?_
   repeat'(first|apply And.intro|exact ze0|refine ze1 ?_|refine zei ?_ ?_|exact rfl|trivial)
   all_goals exact Stop.mk (by first|rfl|rw [Qch])
theorem Qqg {l:List Bool} (h:l.length≤1048576):DC Tryz.prog 72 [.d (.sl (Qaw l))] [.d (.sl (Qaw l))]:=by
 refine Qag tt Tryz.func72 rfl rfl rfl trivial (fun _ _=>⟨trivial,trivial⟩) (fun w0 Z O=>?_)
 have hl:=Qaq l
 repeat' (first|refine zst ?_|(refine zhm fun hb=>?_;try exact zab)|refine zg2 ?_ ?_|refine zln fun _=>?_|refine zop ?_|fail)
 refine Qae (fun (i:Nat)=>⟨22,[(0,.d (.sl (Qaw l))),(3,.row 7),(4,.d (.n .i64 i))],[(7,.row 4 (Qaw (cpyL l false i)) true)]⟩) (fun i=>i≤l.length) (fun i=>l.length - i) 0 (by exact Nat.zero_le _) ?_ ?_
 ·refine ⟨rfl,?_,?_,rfl⟩
  repeat'(first|apply And.intro|exact ze0|refine ze1 ?_|refine zei ?_ ?_|exact rfl|trivial)
  all_goals exact Stop.mk (by first|rfl|(rw [QbE];exact (List.map_replicate ..).symm)|(rw [QbE];simp [Qaw]))
 ·intro i hi
  have hcl:(Qaw (cpyL l false i)).length=l.length:=by rw [Qaq];exact Qay _ _ hi
  have hcl2:=Qay l false hi
  by_cases hi':i<l.length
  ·repeat' (first|refine zst ?_|(refine zhm fun hb=>?_;try exact zab)|refine zg2 ?_ ?_|refine zln fun _=>?_|refine zop ?_|fail)
   refine ⟨i+1,by omega,by omega,?_⟩
   refine ⟨rfl,?_,?_,rfl⟩
   repeat'(first|apply And.intro|exact ze0|refine ze1 ?_|refine zei ?_ ?_|exact rfl|trivial)
   all_goals exact Stop.mk (by first|rfl|exact Qcf (f:=(fun b=>([.b b]:List D))) hi')
  ·obtain rfl:i=l.length:=by omega
   repeat' (first|refine zsr ?_|(refine zhm fun hb=>?_;try exact zab)|refine zg2 ?_ ?_|refine zln fun _=>?_|refine zop ?_|fail)
   show AWp _ _ _ _
   refine Qav 7 rfl ?_
   refine Qac ?_
   apply Qab
   refine zm () [] trivial ?_ ?_ ?_
   repeat'(first|apply And.intro|exact ze0|refine ze1 ?_|refine zei ?_ ?_|exact rfl|trivial)
   all_goals exact Stop.mk (by first|rfl|rw [Qch])
theorem Qsg {l:List Node} (h:l.length≤1048576):DC Tryz.prog 165 [.d (.sl (QaD l))] [.d (.sl (QaD l))]:=by
 refine Qag tt Tryz.func165 rfl rfl rfl trivial (fun _ _=>⟨trivial,trivial⟩) (fun w0 Z O=>?_)
 have hl:=Qar l
 repeat' (first|refine zst ?_|(refine zhm fun hb=>?_;try exact zab)|refine zg2 ?_ ?_|refine zln fun _=>?_|refine zop ?_|fail)
 refine Qae (fun (i:Nat)=>⟨23,[(0,.d (.sl (QaD l))),(3,.row 7),(4,.d (.n .i64 i))],[(7,.row 255 (QaD (cpyL l ⟨0,⟨0,0,0⟩⟩ i)) true)]⟩) (fun i=>i≤l.length) (fun i=>l.length - i) 0 (by exact Nat.zero_le _) ?_ ?_
 ·refine ⟨rfl,?_,?_,rfl⟩
  repeat'(first|apply And.intro|exact ze0|refine ze1 ?_|refine zei ?_ ?_|exact rfl|trivial)
  all_goals exact Stop.mk (by first|rfl|(rw [QbE];exact (List.map_replicate ..).symm)|(rw [QbE];simp [QaD]))
 ·intro i hi
  have hcl:(QaD (cpyL l ⟨0,⟨0,0,0⟩⟩ i)).length=l.length:=by rw [Qar];exact Qay _ _ hi
  have hcl2:=Qay l ⟨0,⟨0,0,0⟩⟩ hi
  by_cases hi':i<l.length
  ·repeat' (first|refine zst ?_|(refine zhm fun hb=>?_;try exact zab)|refine zg2 ?_ ?_|refine zln fun _=>?_|refine zop ?_|refine kc (QoJ (x:=nth l i)) rfl rfl ?_|fail)
   refine ⟨i+1,by omega,by omega,?_⟩
   refine ⟨rfl,?_,?_,rfl⟩
   repeat'(first|apply And.intro|exact ze0|refine ze1 ?_|refine zei ?_ ?_|exact rfl|trivial)
   all_goals exact Stop.mk (by first|rfl|exact Qcf (f:=(fun n=>([.n .i64 n.leaf,.n .i64 n.cap.a,.n .i64 n.cap.b,.n .i64 n.cap.c]:List D))) hi')
  ·obtain rfl:i=l.length:=by omega
   repeat' (first|refine zsr ?_|(refine zhm fun hb=>?_;try exact zab)|refine zg2 ?_ ?_|refine zln fun _=>?_|refine zop ?_|fail)
   show AWp _ _ _ _
   refine Qav 7 rfl ?_
   refine Qac ?_
   apply Qab
   refine zm () [] trivial ?_ ?_ ?_
   repeat'(first|apply And.intro|exact ze0|refine ze1 ?_|refine zei ?_ ?_|exact rfl|trivial)
   all_goals exact Stop.mk (by first|rfl|rw [Qch])
theorem QsR {l:List Job} (h:l.length≤1048576):DC Tryz.prog 74 [.d (.sl (jobE l))] [.d (.sl (jobE l))]:=by
 refine Qag tt Tryz.func74 rfl rfl rfl trivial (fun _ _=>⟨trivial,trivial⟩) (fun w0 Z O=>?_)
 have hl:=Qak l
 repeat' (first|refine zst ?_|(refine zhm fun hb=>?_;try exact zab)|refine zg2 ?_ ?_|refine zln fun _=>?_|refine zop ?_|fail)
 refine Qae (fun (i:Nat)=>⟨23,[(0,.d (.sl (jobE l))),(3,.row 7),(4,.d (.n .i64 i))],[(7,.row 78 (jobE (cpyL l ⟨0,0,0,⟨0,0,0⟩,⟨0,0,0⟩,0,0⟩ i)) true)]⟩) (fun i=>i≤l.length) (fun i=>l.length - i) 0 (by exact Nat.zero_le _) ?_ ?_
 ·refine ⟨rfl,?_,?_,rfl⟩
  repeat'(first|apply And.intro|exact ze0|refine ze1 ?_|refine zei ?_ ?_|exact rfl|trivial)
  all_goals exact Stop.mk (by first|rfl|(rw [QbE];exact (List.map_replicate ..).symm)|(rw [QbE];simp [jobE]))
 ·intro i hi
  have hcl:(jobE (cpyL l ⟨0,0,0,⟨0,0,0⟩,⟨0,0,0⟩,0,0⟩ i)).length=l.length:=by rw [Qak];exact Qay _ _ hi
  have hcl2:=Qay l ⟨0,0,0,⟨0,0,0⟩,⟨0,0,0⟩,0,0⟩ hi
  by_cases hi':i<l.length
  ·repeat' (first|refine zst ?_|(refine zhm fun hb=>?_;try exact zab)|refine zg2 ?_ ?_|refine zln fun _=>?_|refine zop ?_|refine kc (Qh1 (x:=nth l i)) rfl rfl ?_|fail)
   refine ⟨i+1,by omega,by omega,?_⟩
   refine ⟨rfl,?_,?_,rfl⟩
   repeat'(first|apply And.intro|exact ze0|refine ze1 ?_|refine zei ?_ ?_|exact rfl|trivial)
   all_goals exact Stop.mk (by first|rfl|exact Qcf (f:=jobD) hi')
  ·obtain rfl:i=l.length:=by omega
   repeat' (first|refine zsr ?_|(refine zhm fun hb=>?_;try exact zab)|refine zg2 ?_ ?_|refine zln fun _=>?_|refine zop ?_|fail)
   show AWp _ _ _ _
   refine Qav 7 rfl ?_
   refine Qac ?_
   apply Qab
   refine zm () [] trivial ?_ ?_ ?_
   repeat'(first|apply And.intro|exact ze0|refine ze1 ?_|refine zei ?_ ?_|exact rfl|trivial)
   all_goals exact Stop.mk (by first|rfl|rw [Qch])
theorem Quc {l:List EndS} (h:l.length≤1048576):DC Tryz.prog 76 [.d (.sl (endE l))] [.d (.sl (endE l))]:=by
 refine Qag tt Tryz.func76 rfl rfl rfl trivial (fun _ _=>⟨trivial,trivial⟩) (fun w0 Z O=>?_)
 have hl:=QaC l
 repeat' (first|refine zst ?_|(refine zhm fun hb=>?_;try exact zab)|refine zg2 ?_ ?_|refine zln fun _=>?_|refine zop ?_|fail)
 refine Qae (fun (i:Nat)=>⟨23,[(0,.d (.sl (endE l))),(3,.row 7),(4,.d (.n .i64 i))],[(7,.row 150 (endE (cpyL l ⟨0,0,0⟩ i)) true)]⟩) (fun i=>i≤l.length) (fun i=>l.length - i) 0 (by exact Nat.zero_le _) ?_ ?_
 ·refine ⟨rfl,?_,?_,rfl⟩
  repeat'(first|apply And.intro|exact ze0|refine ze1 ?_|refine zei ?_ ?_|exact rfl|trivial)
  all_goals exact Stop.mk (by first|rfl|(rw [QbE];exact (List.map_replicate ..).symm)|(rw [QbE];simp [endE]))
 ·intro i hi
  have hcl:(endE (cpyL l ⟨0,0,0⟩ i)).length=l.length:=by rw [QaC];exact Qay _ _ hi
  have hcl2:=Qay l ⟨0,0,0⟩ hi
  by_cases hi':i<l.length
  ·repeat' (first|refine zst ?_|(refine zhm fun hb=>?_;try exact zab)|refine zg2 ?_ ?_|refine zln fun _=>?_|refine zop ?_|refine kc (QsC (x:=nth l i)) rfl rfl ?_|fail)
   refine ⟨i+1,by omega,by omega,?_⟩
   refine ⟨rfl,?_,?_,rfl⟩
   repeat'(first|apply And.intro|exact ze0|refine ze1 ?_|refine zei ?_ ?_|exact rfl|trivial)
   all_goals exact Stop.mk (by first|rfl|exact Qcf (f:=(fun e=>([.n .i64 e.id,.n .i64 e.at',.n .i64 e.why]:List D))) hi')
  ·obtain rfl:i=l.length:=by omega
   repeat' (first|refine zsr ?_|(refine zhm fun hb=>?_;try exact zab)|refine zg2 ?_ ?_|refine zln fun _=>?_|refine zop ?_|fail)
   show AWp _ _ _ _
   refine Qav 7 rfl ?_
   refine Qac ?_
   apply Qab
   refine zm () [] trivial ?_ ?_ ?_
   repeat'(first|apply And.intro|exact ze0|refine ze1 ?_|refine zei ?_ ?_|exact rfl|trivial)
   all_goals exact Stop.mk (by first|rfl|rw [Qch])
theorem QvO {r:Run} (h:r.nodes.length≤1048576):DC Tryz.prog 166 [runA r] [runA r]:=by
 refine Qag tt Tryz.func166 rfl rfl rfl trivial (fun _ _=>⟨trivial,trivial⟩) (fun w0 Z O=>?_)
 repeat' (first|refine zsr ?_|(refine zhm fun hb=>?_;try exact zab)|refine zg2 ?_ ?_|refine zop ?_|refine kc (Qh1 (x:=r.job)) rfl rfl ?_|(refine km [] (Qj7 (l:=r.nodes) h) rfl rfl (fun i hi=>?_);(try dsimp only at hi))|fail)
 show AWp _ _ _ _
 refine Qac ?_
 apply Qab
 exact zm () [] trivial zae zae zae
def runD (r:Run):List D:=[.n .i64 r.job.id,.n .i64 r.job.prio,.n .i64 r.job.nodes,.n .i64 r.job.need.a,.n .i64 r.job.need.b,.n .i64 r.job.need.c,.n .i64 r.job.lic.a,.n .i64 r.job.lic.b,.n .i64 r.job.lic.c,.n .i64 r.job.wall,.n .i64 r.job.level,.n .i64 r.at',.sl (intE r.nodes)]
def zRun:Run:=⟨⟨0,0,0,⟨0,0,0⟩,⟨0,0,0⟩,0,0⟩,0,[]⟩
theorem Qt2 {l:List Run} (h:l.length≤1048576) (hr:∀j,j<l.length→(nth l j).nodes.length≤1048576):DC Tryz.prog 75 [.d (.sl (runE l))] [.d (.sl (runE l))]:=by
 refine Qag tt Tryz.func75 rfl rfl rfl trivial (fun _ _=>⟨trivial,trivial⟩) (fun w0 Z O=>?_)
 have hl:=Qah l
 repeat' (first|refine zst ?_|(refine zhm fun hb=>?_;try exact zab)|refine zg2 ?_ ?_|(apply Qcj;first|refine zom ?_|(refine Qn3 rfl rfl rfl rfl (by first|with_reducible rfl|exact nlit _|rfl) rfl (by first|with_reducible rfl|exact nlit _|rfl) (by omega) ⟨rfl,rfl,rfl⟩ rfl rfl rfl rfl rfl ?_))|refine zln fun _=>?_|refine zop ?_|fail)
 show AWp _ _ _ _
 refine Qc5 7 rfl ?_
 refine Qae (fun (i:Nat)=>⟨23,[(0,.d (.sl (runE l))),(3,.row 7),(4,.d (.n .i64 i))],[(7,.row 148 (runE (cpyL l zRun i)) false)]⟩) (fun i=>i≤l.length) (fun i=>l.length - i) 0 (by exact Nat.zero_le _) ?_ ?_
 ·refine ⟨rfl,?_,?_,rfl⟩
  repeat'(first|apply And.intro|exact ze0|refine ze1 ?_|refine zei ?_ ?_|exact rfl|trivial)
  all_goals exact Stop.mk (by first|rfl|(rw [QbE];exact (List.map_replicate ..).symm)|(rw [QbE];simp [runE,zRun,intE]))
 ·intro k hk
  have hcl:(runE (cpyL l zRun k)).length=l.length:=by rw [Qah];exact Qay _ _ hk
  have hcl2:=Qay l zRun hk
  by_cases hk':k<l.length
  ·repeat' (first|refine zst ?_|(refine zhm fun hb=>?_;try exact zab)|refine zg2 ?_ ?_|refine zln fun _=>?_|refine zop ?_|(refine km [] (QvO (r:=nth l k) (hr k hk')) rfl rfl (fun i hi=>?_);(try dsimp only at hi))|fail)
   refine ⟨k+1,by omega,by omega,?_⟩
   refine ⟨rfl,?_,?_,rfl⟩
   repeat'(first|apply And.intro|exact ze0|refine ze1 ?_|refine zei ?_ ?_|exact rfl|trivial)
   all_goals exact Stop.mk (by first|rfl|exact Qcf (f:=runD) hk')
  ·obtain rfl:k=l.length:=by omega
   repeat' (first|refine zsr ?_|(refine zhm fun hb=>?_;try exact zab)|refine zg2 ?_ ?_|refine zln fun _=>?_|refine zop ?_|fail)
   show AWp _ _ _ _
   refine Qav 7 rfl ?_
   refine Qac ?_
   apply Qab
   refine zm () [] trivial ?_ ?_ ?_
   repeat'(first|apply And.intro|exact ze0|refine ze1 ?_|refine zei ?_ ?_|exact rfl|trivial)
   all_goals exact Stop.mk (by first|rfl|rw [Qch])
theorem QtE {t:Topo} (h1:t.parents.length≤1048576) (h2:t.nodes.length≤1048576):DC Tryz.prog 71 [Qcw t] [Qcw t]:=by
 refine Qag tt Tryz.func71 rfl rfl rfl trivial (fun _ _=>⟨trivial,trivial⟩) (fun w0 Z O=>?_)
 repeat' (first|refine zsr ?_|(refine zhm fun hb=>?_;try exact zab)|refine zg2 ?_ ?_|refine zop ?_|(refine km [] (Qj7 (l:=t.parents) h1) rfl rfl (fun i hi=>?_);(try dsimp only at hi))|(refine km [] (Qsg (l:=t.nodes) h2) rfl rfl (fun i hi=>?_);(try dsimp only at hi))|fail)
 show AWp _ _ _ _
 refine Qac ?_
 apply Qab
 exact zm () [] trivial zae zae zae
theorem QbD {s:State} (h:Small 1048576 s):DC Tryz.prog 17 [QaA s] [QaA s]:=by
 refine Qag tt Tryz.func17 rfl rfl rfl trivial (fun _ _=>⟨trivial,trivial⟩) (fun w0 Z O=>?_)
 repeat' (first|refine zsr ?_|(refine zhm fun hb=>?_;try exact zab)|refine zg2 ?_ ?_|refine zop ?_|refine kc (QgC (x:=s.lic)) rfl rfl ?_|(refine km [] (QtE (t:=s.topo) h.par h.nod) rfl rfl (fun i hi=>?_);(try dsimp only at hi))|(refine km [] (Qqg (l:=s.up) h.up) rfl rfl (fun i hi=>?_);(try dsimp only at hi))|(refine km [] (QsR (l:=s.queue) h.que) rfl rfl (fun i hi=>?_);(try dsimp only at hi))|(refine km [] (Qt2 (l:=s.runs) h.run h.rno) rfl rfl (fun i hi=>?_);(try dsimp only at hi))|(refine km [] (Quc (l:=s.ends) h.end') rfl rfl (fun i hi=>?_);(try dsimp only at hi))|fail)
 show AWp _ _ _ _
 refine Qac ?_
 apply Qab
 exact zm () [] trivial zae zae zae
theorem QkO {x:V3}:ACalls Tryz.prog 82 [vecA x,vecA x] [.d (.b true)] []:=by
 refine Qaa tt Tryz.func82 rfl rfl rfl (fun w0 Z=>?_)
 repeat' (first|refine zst ?_|(refine zhm fun hb=>?_;try exact zab)|refine zg2 ?_ ?_|refine zop ?_|fail)
 all_goals first|exact absurd rfl (by assumption)|skip
 exact zr [] zae zae
theorem QnC {x:Node}:ACalls Tryz.prog 238 [QtU x,QtU x] [.d (.b true)] []:=by
 refine Qaa tt Tryz.func238 rfl rfl rfl (fun w0 Z=>?_)
 repeat' (first|refine zst ?_|(refine zhm fun hb=>?_;try exact zab)|refine zg2 ?_ ?_|refine zop ?_|refine kc (QkO (x:=x.cap)) rfl rfl ?_|fail)
 all_goals first|exact absurd rfl (by assumption)|skip
 exact zr [] zae zae
theorem Qmq {x:Job}:ACalls Tryz.prog 171 [jobA x,jobA x] [.d (.b true)] []:=by
 refine Qaa tt Tryz.func171 rfl rfl rfl (fun w0 Z=>?_)
 repeat' (first|refine zst ?_|(refine zhm fun hb=>?_;try exact zab)|refine zg2 ?_ ?_|refine zop ?_|refine kc (QkO (x:=x.need)) rfl rfl ?_|refine kc (QkO (x:=x.lic)) rfl rfl ?_|fail)
 all_goals first|exact absurd rfl (by assumption)|skip
 exact zr [] zae zae
theorem Qqf {x:EndS}:ACalls Tryz.prog 173 [endA x,endA x] [.d (.b true)] []:=by
 refine Qaa tt Tryz.func173 rfl rfl rfl (fun w0 Z=>?_)
 repeat' (first|refine zst ?_|(refine zhm fun hb=>?_;try exact zab)|refine zg2 ?_ ?_|refine zop ?_|fail)
 all_goals first|exact absurd rfl (by assumption)|skip
 exact zr [] zae zae
theorem QhD {l:List Int} (h:l.length≤1000000000) :ACalls Tryz.prog 79 [.d (.sl (intE l)),.d (.sl (intE l))] [.d (.b true)] []:=by
 refine Qaa tt Tryz.func79 rfl rfl rfl (fun w0 Z=>?_)
 have hl:=Qad l
 repeat' (first|refine zst ?_|(refine zhm fun hb=>?_;try exact zab)|refine zdr ?_|(apply zch;exact zcg)|refine HopS.mk fun w0 Z O=>?_|exact zhk|refine zg3 ?_ ?_|refine zln fun _=>?_|refine zop ?_|fail)
 all_goals first|exact absurd rfl (by assumption)|skip
 refine Qae (fun (i:Nat)=>⟨26,[(0,.d (.sl (intE l))),(1,.d (.sl (intE l))),(5,.d (.n .i64 i))],[]⟩) (fun i=>i≤l.length) (fun i=>l.length - i) 0 (by exact Nat.zero_le _) ?_ ?_
 ·exact ⟨rfl,zae,zae,rfl⟩
 ·intro i hi
  by_cases hi':i<l.length
  ·repeat' (first|refine zst ?_|(refine zhm fun hb=>?_;try exact zab)|refine zdr ?_|(apply zch;exact zcg)|refine HopS.mk fun w0 Z O=>?_|exact zhk|refine zg3 ?_ ?_|refine zln fun _=>?_|refine zop ?_|fail)
   all_goals first|exact absurd rfl (by assumption)|skip
   refine ⟨i+1,by omega,by omega,?_⟩
   exact ⟨rfl,zae,zae,rfl⟩
  ·repeat' (first|refine zst ?_|(refine zhm fun hb=>?_;try exact zab)|refine zdr ?_|(apply zch;exact zcg)|refine HopS.mk fun w0 Z O=>?_|exact zhk|refine zg3 ?_ ?_|refine zln fun _=>?_|refine zop ?_|fail)
   exact zr [] zae zae
theorem QqW {l:List Bool} (h:l.length≤1000000000) :ACalls Tryz.prog 81 [.d (.sl (Qaw l)),.d (.sl (Qaw l))] [.d (.b true)] []:=by
 refine Qaa tt Tryz.func81 rfl rfl rfl (fun w0 Z=>?_)
 have hl:=Qaq l
 repeat' (first|refine zst ?_|(refine zhm fun hb=>?_;try exact zab)|refine zdr ?_|(apply zch;exact zcg)|refine HopS.mk fun w0 Z O=>?_|exact zhk|refine zg3 ?_ ?_|refine zln fun _=>?_|refine zop ?_|fail)
 all_goals first|exact absurd rfl (by assumption)|skip
 refine Qae (fun (i:Nat)=>⟨26,[(0,.d (.sl (Qaw l))),(1,.d (.sl (Qaw l))),(5,.d (.n .i64 i))],[]⟩) (fun i=>i≤l.length) (fun i=>l.length - i) 0 (by exact Nat.zero_le _) ?_ ?_
 ·exact ⟨rfl,zae,zae,rfl⟩
 ·intro i hi
  by_cases hi':i<l.length
  ·repeat' (first|refine zst ?_|(refine zhm fun hb=>?_;try exact zab)|refine zdr ?_|(apply zch;exact zcg)|refine HopS.mk fun w0 Z O=>?_|exact zhk|refine zg3 ?_ ?_|refine zln fun _=>?_|refine zop ?_|fail)
   all_goals first|exact absurd rfl (by assumption)|skip
   refine ⟨i+1,by omega,by omega,?_⟩
   exact ⟨rfl,zae,zae,rfl⟩
  ·repeat' (first|refine zst ?_|(refine zhm fun hb=>?_;try exact zab)|refine zdr ?_|(apply zch;exact zcg)|refine HopS.mk fun w0 Z O=>?_|exact zhk|refine zg3 ?_ ?_|refine zln fun _=>?_|refine zop ?_|fail)
   exact zr [] zae zae
theorem Qq3 {l:List Node} (h:l.length≤1000000000) :ACalls Tryz.prog 170 [.d (.sl (QaD l)),.d (.sl (QaD l))] [.d (.b true)] []:=by
 refine Qaa tt Tryz.func170 rfl rfl rfl (fun w0 Z=>?_)
 have hl:=Qar l
 repeat' (first|refine zst ?_|(refine zhm fun hb=>?_;try exact zab)|refine zdr ?_|(apply zch;exact zcg)|refine HopS.mk fun w0 Z O=>?_|exact zhk|refine zg3 ?_ ?_|refine zln fun _=>?_|refine zop ?_|fail)
 all_goals first|exact absurd rfl (by assumption)|skip
 refine Qae (fun (i:Nat)=>⟨27,[(0,.d (.sl (QaD l))),(1,.d (.sl (QaD l))),(5,.d (.n .i64 i))],[]⟩) (fun i=>i≤l.length) (fun i=>l.length - i) 0 (by exact Nat.zero_le _) ?_ ?_
 ·exact ⟨rfl,zae,zae,rfl⟩
 ·intro i hi
  by_cases hi':i<l.length
  ·repeat' (first|refine zst ?_|(refine zhm fun hb=>?_;try exact zab)|refine zdr ?_|(apply zch;exact zcg)|refine HopS.mk fun w0 Z O=>?_|exact zhk|refine zg3 ?_ ?_|refine zln fun _=>?_|refine zop ?_|refine kc (QnC (x:=nth l i)) rfl rfl ?_|refine kq (QnC (x:=nth l i)) rfl rfl ?_|fail)
   all_goals first|exact absurd rfl (by assumption)|skip
   refine ⟨i+1,by omega,by omega,?_⟩
   exact ⟨rfl,zae,zae,rfl⟩
  ·repeat' (first|refine zst ?_|(refine zhm fun hb=>?_;try exact zab)|refine zdr ?_|(apply zch;exact zcg)|refine HopS.mk fun w0 Z O=>?_|exact zhk|refine zg3 ?_ ?_|refine zln fun _=>?_|refine zop ?_|fail)
   exact zr [] zae zae
theorem QtR {l:List Job} (h:l.length≤1000000000) :ACalls Tryz.prog 83 [.d (.sl (jobE l)),.d (.sl (jobE l))] [.d (.b true)] []:=by
 refine Qaa tt Tryz.func83 rfl rfl rfl (fun w0 Z=>?_)
 have hl:=Qak l
 repeat' (first|refine zst ?_|(refine zhm fun hb=>?_;try exact zab)|refine zdr ?_|(apply zch;exact zcg)|refine HopS.mk fun w0 Z O=>?_|exact zhk|refine zg3 ?_ ?_|refine zln fun _=>?_|refine zop ?_|fail)
 all_goals first|exact absurd rfl (by assumption)|skip
 refine Qae (fun (i:Nat)=>⟨27,[(0,.d (.sl (jobE l))),(1,.d (.sl (jobE l))),(5,.d (.n .i64 i))],[]⟩) (fun i=>i≤l.length) (fun i=>l.length - i) 0 (by exact Nat.zero_le _) ?_ ?_
 ·exact ⟨rfl,zae,zae,rfl⟩
 ·intro i hi
  by_cases hi':i<l.length
  ·repeat' (first|refine zst ?_|(refine zhm fun hb=>?_;try exact zab)|refine zdr ?_|(apply zch;exact zcg)|refine HopS.mk fun w0 Z O=>?_|exact zhk|refine zg3 ?_ ?_|refine zln fun _=>?_|refine zop ?_|refine kc (Qmq (x:=nth l i)) rfl rfl ?_|refine kq (Qmq (x:=nth l i)) rfl rfl ?_|fail)
   all_goals first|exact absurd rfl (by assumption)|skip
   refine ⟨i+1,by omega,by omega,?_⟩
   exact ⟨rfl,zae,zae,rfl⟩
  ·repeat' (first|refine zst ?_|(refine zhm fun hb=>?_;try exact zab)|refine zdr ?_|(apply zch;exact zcg)|refine HopS.mk fun w0 Z O=>?_|exact zhk|refine zg3 ?_ ?_|refine zln fun _=>?_|refine zop ?_|fail)
   exact zr [] zae zae
theorem QsQ {l:List EndS} (h:l.length≤1000000000) :ACalls Tryz.prog 85 [.d (.sl (endE l)),.d (.sl (endE l))] [.d (.b true)] []:=by
 refine Qaa tt Tryz.func85 rfl rfl rfl (fun w0 Z=>?_)
 have hl:=QaC l
 repeat' (first|refine zst ?_|(refine zhm fun hb=>?_;try exact zab)|refine zdr ?_|(apply zch;exact zcg)|refine HopS.mk fun w0 Z O=>?_|exact zhk|refine zg3 ?_ ?_|refine zln fun _=>?_|refine zop ?_|fail)
 all_goals first|exact absurd rfl (by assumption)|skip
 refine Qae (fun (i:Nat)=>⟨27,[(0,.d (.sl (endE l))),(1,.d (.sl (endE l))),(5,.d (.n .i64 i))],[]⟩) (fun i=>i≤l.length) (fun i=>l.length - i) 0 (by exact Nat.zero_le _) ?_ ?_
 ·exact ⟨rfl,zae,zae,rfl⟩
 ·intro i hi
  by_cases hi':i<l.length
  ·repeat' (first|refine zst ?_|(refine zhm fun hb=>?_;try exact zab)|refine zdr ?_|(apply zch;exact zcg)|refine HopS.mk fun w0 Z O=>?_|exact zhk|refine zg3 ?_ ?_|refine zln fun _=>?_|refine zop ?_|refine kc (Qqf (x:=nth l i)) rfl rfl ?_|refine kq (Qqf (x:=nth l i)) rfl rfl ?_|fail)
   all_goals first|exact absurd rfl (by assumption)|skip
   refine ⟨i+1,by omega,by omega,?_⟩
   exact ⟨rfl,zae,zae,rfl⟩
  ·repeat' (first|refine zst ?_|(refine zhm fun hb=>?_;try exact zab)|refine zdr ?_|(apply zch;exact zcg)|refine HopS.mk fun w0 Z O=>?_|exact zhk|refine zg3 ?_ ?_|refine zln fun _=>?_|refine zop ?_|fail)
   exact zr [] zae zae
theorem Qqq {r:Run} (h:r.nodes.length≤1000000000):ACalls Tryz.prog 172 [runA r,runA r] [.d (.b true)] []:=by
 refine Qaa tt Tryz.func172 rfl rfl rfl (fun w0 Z=>?_)
 repeat' (first|refine zst ?_|(refine zhm fun hb=>?_;try exact zab)|refine zg2 ?_ ?_|refine zop ?_|refine kc (Qmq (x:=r.job)) rfl rfl ?_|refine kc (QhD (l:=r.nodes) h) rfl rfl ?_|fail)
 all_goals first|exact absurd rfl (by assumption)|skip
 exact zr [] zae zae
theorem Qs1 {l:List Run} (h:l.length≤1000000000) (hr:∀j,j<l.length→(nth l j).nodes.length≤1000000000):ACalls Tryz.prog 84 [.d (.sl (runE l)),.d (.sl (runE l))] [.d (.b true)] []:=by
 refine Qaa tt Tryz.func84 rfl rfl rfl (fun w0 Z=>?_)
 have hl:=Qah l
 repeat' (first|refine zst ?_|(refine zhm fun hb=>?_;try exact zab)|refine zdr ?_|(apply zch;exact zcg)|refine HopS.mk fun w0 Z O=>?_|exact zhk|refine zg3 ?_ ?_|refine zln fun _=>?_|refine zop ?_|fail)
 all_goals first|exact absurd rfl (by assumption)|skip
 refine Qae (fun (i:Nat)=>⟨27,[(0,.d (.sl (runE l))),(1,.d (.sl (runE l))),(5,.d (.n .i64 i))],[]⟩) (fun i=>i≤l.length) (fun i=>l.length - i) 0 (by exact Nat.zero_le _) ?_ ?_
 ·exact ⟨rfl,zae,zae,rfl⟩
 ·intro i hi
  by_cases hi':i<l.length
  ·repeat' (first|refine zst ?_|(refine zhm fun hb=>?_;try exact zab)|refine zdr ?_|(apply zch;exact zcg)|refine HopS.mk fun w0 Z O=>?_|exact zhk|refine zg3 ?_ ?_|refine zln fun _=>?_|refine zop ?_|refine kc (Qqq (r:=nth l i) (hr i hi')) rfl rfl ?_|refine kq (Qqq (r:=nth l i) (hr i hi')) rfl rfl ?_|fail)
   all_goals first|exact absurd rfl (by assumption)|skip
   refine ⟨i+1,by omega,by omega,?_⟩
   exact ⟨rfl,zae,zae,rfl⟩
  ·repeat' (first|refine zst ?_|(refine zhm fun hb=>?_;try exact zab)|refine zdr ?_|(apply zch;exact zcg)|refine HopS.mk fun w0 Z O=>?_|exact zhk|refine zg3 ?_ ?_|refine zln fun _=>?_|refine zop ?_|fail)
   exact zr [] zae zae
theorem Qtc {t:Topo} (h1:t.parents.length≤1000000000) (h2:t.nodes.length≤1000000000):ACalls Tryz.prog 80 [Qcw t,Qcw t] [.d (.b true)] []:=by
 refine Qaa tt Tryz.func80 rfl rfl rfl (fun w0 Z=>?_)
 repeat' (first|refine zst ?_|(refine zhm fun hb=>?_;try exact zab)|refine zg2 ?_ ?_|refine zop ?_|refine kc (QhD (l:=t.parents) h1) rfl rfl ?_|refine kc (Qq3 (l:=t.nodes) h2) rfl rfl ?_|fail)
 exact zr [] zae zae
theorem QaQ {s:State} (h:Small 1000000000 s):ACalls Tryz.prog 20 [QaA s,QaA s] [.d (.b true)] []:=by
 refine Qaa tt Tryz.func20 rfl rfl rfl (fun w0 Z=>?_)
 repeat' (first|refine zst ?_|(refine zhm fun hb=>?_;try exact zab)|refine zg2 ?_ ?_|refine zop ?_|refine kc (Qtc (t:=s.topo) h.par h.nod) rfl rfl ?_|refine kc (QqW (l:=s.up) h.up) rfl rfl ?_|refine kc (QkO (x:=s.lic)) rfl rfl ?_|refine kc (QtR (l:=s.queue) h.que) rfl rfl ?_|refine kc (Qs1 (l:=s.runs) h.run h.rno) rfl rfl ?_|refine kc (QsQ (l:=s.ends) h.end') rfl rfl ?_|fail)
 all_goals first|exact absurd rfl (by assumption)|skip
 exact zr [] zae zae
end Go.Proofs.YtelbahebpmkfjaaGreat
