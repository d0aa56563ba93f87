/-
  The library's sort by a function, at numbers: the leaves by how many nodes they have.
-/
import Derived.Test.YtelbahebpmkfjaaGreatKB29
import Derived.Test.YtelbahebpmkfjaaGreatKB10
import Derived.Deep.QuietTactic
import Derived.Test.YtelbahebpmkfjaaGreatKB13
import Derived.Test.YtelbahebpmkfjaaGreatKB7
set_option maxRecDepth 100000
set_option maxHeartbeats 16000000
namespace Go.Proofs.YtelbahebpmkfjaaGreat
open Go Go.RowKit Go.Sort Go.Shelf

def cfM (c:List Int) (x y:Int):Int:=if nth c x.toNat≠nth c y.toNat then nth c y.toNat - nth c x.toNat else x - y
theorem Qki {W:World} {p:Addr} {mb mo n cap:Nat} {c:List Int} {x y:Int} (h1:W.cell? p=some (.slice (some ⟨mb,mo,none⟩) n cap)) (hn:n=c.length) (h2:∀j,j<n→W.cell? ⟨mb,mo+j,none⟩=some (.int .i64 (nth c j)))
  (h3:∀j,j<n→-1000000≤nth c j∧nth c j≤1000000) (hx:0≤x∧x<n) (hy:0≤y∧y<n) (hnn:n≤1000000) :
  Calls Tryz.prog 314 #[.int .i64 x,.int .i64 y,.pointer (some p)] W fun e w'=>e=.returned (.int .i64 (cfM c x y))∧∃q,w'=W.drewN q:=by
 obtain ⟨hx1,hx2⟩:=hx
 obtain ⟨hy1,hy2⟩:=hy
 have cx:=h2 x.toNat (by omega)
 have cy:=h2 y.toNat (by omega)
 have bx:=h3 x.toNat (by omega)
 have by':=h3 y.toNat (by omega)
 by_cases huv:nth c x.toNat=nth c y.toNat
 ·rw [show cfM c x y=x - y from if_neg (fun h=>h huv)]
  rw [←huv] at cy
  clear by'
  generalize nth c x.toNat=u at *
  clear h2 h3 huv
  go_enter Tryz.func314,Tryz.ntmps314
  go_wp2
  go_quiet (fail)
  go_wp2
  go_ret
  exact ⟨rfl,_,rfl⟩
 ·rw [show cfM c x y=nth c y.toNat - nth c x.toNat from if_pos huv]
  generalize nth c x.toNat=u at *
  generalize nth c y.toNat=v at *
  clear h2 h3
  go_enter Tryz.func314,Tryz.ntmps314
  go_wp2
  go_quiet (fail)
  go_wp2
  go_quiet (fail)
  go_wp2
  go_ret
  exact ⟨rfl,_,World.drewN_drewN _ _ _⟩
theorem QiW {P:Program} {f:FuncId} {e:TypeId} {es es':List (List D)} {d:Bool} {z:Nat} {xs:List AV} (hz:(P.info? e).map (·.size)=some z) (hfl:Qcn es=true) (hfl':Qcn es'=true) (hl:es'.map List.length=es.map List.length) (hent:∀us w',(callFunc f us).run P w'=.ok (.enter f us) w')
  (h:∀(w:World) (v:Value) (us us2:List Value) (en:List Ent) (S:Nat→Prop),w.ownsRow 0 e z v es.length us→repE w es us []→Qao w en S xs us2→(∀b,S b→b<w.heap.size∧blk v≠some b)→
   Calls P f (v::us2).toArray w fun en w'=>en=.returned (.tuple #[])∧w.grownBy w' (blk v)∧∃us',w'.ownsRow 0 e z v es.length us'∧repE w' es' us' []) :
  MCalls P f (.row 1000000::xs) [(1000000,.row e es d)] (fun _:Unit=>True) (fun _=>[]) (fun _=>[(1000000,.row e es' d)]) (fun _=>[]):=by
 have hlen:es'.length=es.length:=by have:=congrArg List.length hl;simpa using this
 refine ⟨⟨⟨.inr (.inl hfl),trivial⟩,fun _ _=>⟨⟨⟨rfl,rfl,hl.symm⟩,trivial⟩,.inr (.inl hfl'),trivial⟩⟩,?_⟩
 intro w Zp eh us hm hkey hsh
 obtain ⟨x,rfl⟩:∃x,eh=[x]:=by
  cases eh with
  | nil=>exact absurd (congrArg List.length hkey) (by simp)
  | cons x l=>
   cases l with
   | nil=>exact ⟨x,rfl⟩
   | cons y l=>exact absurd (congrArg List.length hkey) (by simp)
 simp only [List.map_cons,List.map_nil,Ent.key,List.cons.injEq,Prod.mk.injEq,and_true] at hkey
 obtain ⟨hxn,hxa⟩:=hkey
 obtain ⟨v,us2,rfl,hv,hsh2⟩:=hsh
 obtain ⟨y,hy,hyn,hyr,hyv⟩:=hv
 have hyx:y=x:=by simpa using hy
 subst hyx
 have hok:=hm.ok y List.mem_cons_self
 unfold EntOk at hok
 rw [hxa] at hok
 obtain ⟨z',vs,k0,k1,k2,k3,k4,k5,k6,k7⟩:=hok
 have hzz:z'=z:=by rw [hz] at k0;simpa using k0.symm
 subst hzz
 have hfs:=Qcb k4 (QbU hfl)
 rw [hfs] at k4
 subst hyv
 refine ⟨fun w'=>hent _ w',(h w y.val vs us2 _ _ k2 k4 hsh2 (fun b hb=>⟨hb.2.1,fun e=>hb.2.2 y List.mem_cons_self (.inl e)⟩)).mono fun en w' ⟨he,hg,vs',ho,hr⟩=>⟨(),.tuple #[],[⟨1000000,.row e es' d,y.val,[]⟩],⟨trivial,rfl⟩,he,⟨hg.os,hg.tape,hg.output,hg.size,fun b hb hO=>?_,by simp,by simp,fun q hq=>?_,by simp,fun q hq=>?_⟩,?_,[],rfl,rfl⟩⟩
 ·exact hg.block b hb fun e=>hO ⟨y,List.mem_cons_self,.inl e.symm⟩
 ·have hqx:q=⟨1000000,.row e es' d,y.val,[]⟩:=by simpa using hq
  subst hqx
  unfold EntOk
  refine ⟨z',vs',hz,k1,by rw [hlen];exact ho,fun el hel=>?_,hr,by simp,k6,fun _=>⟨by simp,by simp,NstL.nilE hr⟩⟩
  have h1:el.length∈es.map List.length:=by rw [←hl];exact List.mem_map.2 ⟨el,hel,rfl⟩
  obtain ⟨el',hel',e1⟩:=List.mem_map.1 h1
  rw [←e1]
  exact k3 el' hel'
 ·have hqx:q=⟨1000000,.row e es' d,y.val,[]⟩:=by simpa using hq
  subst hqx
  intro _ q hq hqn
  have:q=y:=by simpa using hq
  rw [this]
 ·exact List.Perm.refl _
theorem Qfv (c:List Int) (x y:Int):cfM c x y<0↔nth c y.toNat<nth c x.toNat∨nth c x.toNat=nth c y.toNat∧x<y:=by
 unfold cfM
 split <;> omega
theorem QvK {α:Type} (c:List Int) (f:α→Int):SWO (ltOf fun x y:α=>cfM c (f x) (f y)) where
 irrefl x:=decide_eq_false fun h=>by have:=(Qfv c _ _).1 h;omega
 trans x y z h1 h2:=decide_eq_true ((Qfv c _ _).2 (by
  have h1:=(Qfv c _ _).1 (of_decide_eq_true h1)
  have h2:=(Qfv c _ _).1 (of_decide_eq_true h2)
  omega))
 ntrans x y z h1 h2:=decide_eq_false fun h=>by
  have h:=(Qfv c _ _).1 h
  have h1:¬_:=fun e=>of_decide_eq_false h1 ((Qfv c _ _).2 e)
  have h2:¬_:=fun e=>of_decide_eq_false h2 ((Qfv c _ _).2 e)
  omega
theorem QwC {c:List Int} {x y:Int} (h1:¬cfM c x y<0) (h2:¬cfM c y x<0):x=y:=by
 simp only [cfM] at *
 split at h1 <;> split at h2 <;> omega
def srtM (c l:List Int):List Int:=l.mergeSort fun x y=>!decide (cfM c y x<0)
theorem QfE (c l:List Int):(srtM c l).length=l.length:=List.length_mergeSort l
theorem Qn0 {c l:List Int} {x:Int}:x∈srtM c l↔x∈l:=(List.mergeSort_perm l _).mem_iff
theorem QnK {p:Int→Prop}:∀(l:List Int),(∀x∈l,p x)→∃d:List { x:Int // p x },d.map Subtype.val=l
 | [],_=>⟨[],rfl⟩
 | x::l,h=>by
  obtain ⟨d,hd⟩:=QnK l fun y hy=>h y (List.mem_cons_of_mem _ hy)
  exact ⟨⟨x,h x List.mem_cons_self⟩::d,by rw [List.map_cons,hd]⟩
theorem Ql1 {p:Int→Prop} [Inhabited { x:Int // p x }] (d:List { x:Int // p x }) (cur:Array Value):putCells (fun x:{ x:Int // p x }=>Value.int .i64 x.1) 0 d.toArray cur=putCells (Value.int .i64) 0 (d.map Subtype.val).toArray cur:=by
 unfold putCells
 congr 1
 funext k x
 simp only [List.size_toArray,List.length_map]
 by_cases hk:0≤k∧k<0+d.length
 ·have hk':k<d.length:=by omega
  rw [if_pos hk,if_pos hk]
  simp [hk']
 ·rw [if_neg hk,if_neg hk]
theorem QjF {p:Int→Prop} [Inhabited { x:Int // p x }] (w:World) (g:Nat) (d:List { x:Int // p x }):putRow (fun x:{ x:Int // p x }=>Value.int .i64 x.1) w g 0 d.toArray=putRow (Value.int .i64) w g 0 (d.map Subtype.val).toArray:=by
 unfold putRow
 congr 1
 funext cur
 exact Ql1 d cur
theorem Qle {w w':World} {g:Nat} (h:w.grownBy w' (some g)) {b:Nat} (hb:b<w.heap.size) (hg:g≠b) (o:Nat):w'.cell? ⟨b,o,none⟩=w.cell? ⟨b,o,none⟩:=Same.cell (h.block b hb fun e=>hg (Option.some.inj e).symm) o
theorem Qvz {c l:List Int} {dd:Bool} (h0:0<l.length) (hl:∀x∈l,0≤x∧x<(c.length:Int)) (hc:c.length≤1000000) (hb:∀j,j<c.length→-1000000≤nth c j∧nth c j≤1000000) (hll:l.length≤1000000) :
  MCalls Tryz.prog 313 [.row 1000000,.clo 314 [.pd [.sl (intE c)] 0]] [(1000000,.row 3 (intE l) dd)] (fun _:Unit=>True) (fun _=>[]) (fun _=>[(1000000,.row 3 (intE (srtM c l)) dd)]) (fun _=>[]):=by
 refine QiW (z:=1) ti3.sized (QaG fun _=>rfl) (QaG fun _=>rfl) (Qby (f:=fun (x:Int)=>[D.n .i64 x]) (fun _=>rfl) (QfE c l)) (fun us w'=>Go.MuLone.run_callFunc_enter Tryz.func313 rfl rfl us w') ?_
 intro w v us us2 en S ho hr hsh hS
 rw [Qdh hr,Qad] at ho
 rw [Qad]
 obtain ⟨fv,us3,rfl,hf,h3⟩:=hsh
 have h3':us3=[]:=h3
 subst h3'
 obtain ⟨cbs,rfl,hcb⟩:=hf
 obtain ⟨pv,us4,rfl,hp,h4⟩:=hcb
 have h4':us4=[]:=h4
 subst h4'
 obtain ⟨pb,po,ws,F,rfl,hrep,hcell,hpb,hF⟩:=hp
 obtain ⟨u,us5,F1,F2,rfl,rfl,hu,h5⟩:=hrep
 obtain ⟨x0,l',rfl⟩:∃x l',l=x::l':=by
  cases l with
  | nil=>simp at h0
  | cons x l'=>exact ⟨x,l',rfl⟩
 have hx0:=hl x0 List.mem_cons_self
 obtain ⟨A,mcap,z,ms,F',rfl,m1,m2,m3,m4,m5,m6⟩:=hu
 rcases m6 with ⟨m6,_⟩|⟨m6,mb,mo,rfl,m7,rfl,m8⟩
 ·have:c.length=0:=by rw [←Qad c,m6];rfl
  omega
 rcases ho.2 with ⟨hv,hn⟩|⟨g,cap,cur,hv,hbg,hg,hnc,hcm,hcs,htake⟩
 ·simp at hn
 subst hv
 rw [Nat.mul_one] at htake
 have hgl:=(Array.getElem?_eq_some_iff.1 hg).1
 have hne:∀b,S b→b<w.heap.size∧g≠b:=fun b hb=>⟨(hS b hb).1,fun e=>(hS b hb).2 (by rw [e];rfl)⟩
 have hms:=Qdh m5
 obtain ⟨d,hd⟩:=QnK (p:=fun x=>0≤x∧x<(c.length:Int)) (x0::l') hl
 haveI:Inhabited { x:Int // 0≤x∧x<(c.length:Int) }:=⟨⟨x0,hx0⟩⟩
 have hdl:d.toArray.size=(x0::l').length:=by rw [←hd,List.size_toArray,List.length_map]
 have hH0:=holds_of_blockI hg htake
 have hH:Holds (fun x:{ x:Int // 0≤x∧x<(c.length:Int) }=>Value.int .i64 x.1) w g 0 d.toArray:=by
  intro j hj
  have hj':j<d.length:=by simpa using hj
  have:=hH0 j (by rw [←hd];simpa using hj')
  refine ⟨this.1.trans ?_,this.2⟩
  simp only [←hd]
  simp [hj']
 have hcmp:CmpReads Tryz.prog 314 #[.pointer (some ⟨pb,po+0,none⟩)] (fun x:{ x:Int // 0≤x∧x<(c.length:Int) }=>Value.int .i64 x.1) (fun x y=>cfM c x.1 y.1) g 0 d.toArray.size w:=by
  intro m os dk _ x y
  have hgr:w.grownBy (sortWorld (fun x:{ x:Int // 0≤x∧x<(c.length:Int) }=>Value.int .i64 x.1) w g 0 m dk os) (some g):=by
   unfold sortWorld
   rw [←Array.toArray_toList (xs:=dk),QjF]
   exact grownBy_sortedI _
  refine Qki (c:=c) (mb:=mb) (mo:=mo) (n:=(intE c).length) (cap:=mcap) ?_ (Qad c) ?_ ?_ ?_ ?_ ?_
  ·rw [Qle hgr (hne pb hpb).1 (hne pb hpb).2]
   exact hcell 0 _ rfl
  ·intro j hj
   rw [Qad] at hj
   have hmb:=hne mb (hF mb (by simp))
   rw [Qle hgr hmb.1 hmb.2]
   refine m8 j _ ?_
   rw [hms]
   simp [nth,hj]
  ·intro j hj;exact hb j (by rwa [Qad] at hj)
  ·have:=x.2;rw [Qad];exact this
  ·have:=y.2;rw [Qad];exact this
  ·rw [Qad];exact hc
 have hcon:=Any.slices_SortFunc_total Tryz.sortF (fun x:{ x:Int // 0≤x∧x<(c.length:Int) }=>Value.int .i64 x.1) (fun _=>rfl) (fun x y=>cfM c x.1 y.1) (QvK c _) 314 #[.pointer (some ⟨pb,po+0,none⟩)] g 0 cap d.toArray w
  (fun args w'=>Go.MuLone.run_callFunc_enter Tryz.func314 rfl rfl args w') hcmp.lays hH hgl (by rw [hdl];omega)
  (fun x y h1 h2=>Subtype.ext (QwC (of_decide_eq_false h1) (of_decide_eq_false h2)))
 rw [hdl] at hcon
 change Calls Tryz.prog 313 _ _ _ at hcon
 have hsv:(d.mergeSort fun x y=>!(ltOf fun x y:{ x:Int // 0≤x∧x<(c.length:Int) }=>cfM c x.1 y.1) y x).map Subtype.val=srtM c (x0::l'):=by
  unfold srtM
  rw [←hd]
  exact List.map_mergeSort fun a _ b _=>rfl
 refine hcon.mono fun e w' ⟨he,n,os,hw⟩=>?_
 have hw2:w'=grow (putRow (Value.int .i64) (Sort.ahead w n) g 0 (srtM c (x0::l')).toArray) os:=by
  rw [hw,←hsv]
  unfold sortWorld
  rw [QjF]
 subst hw2
 exact ⟨he,grownBy_sortedI _,(srtM c (x0::l')).map (Value.int .i64),ownsRow_sortedI (QfE c _) (Nat.zero_le _) hg hnc hcm hcs,Qig _ _⟩
end Go.Proofs.YtelbahebpmkfjaaGreat
namespace Go.Proofs.YtelbahebpmkfjaaGreat
open Go Go.RowKit
attribute [local irreducible] AWp Qat OpOk ACalls ChA QsOk MCalls EnC PY

def cntC (t:Topo) (m:List Int):List Int:=(List.range t.parents.length).map fun (s:Nat)=>((m.filter fun x=>decide (QaY t x=s)).length:Int)
theorem Qhp (t:Topo) (m:List Int):(cntC t m).length=t.parents.length:=by simp [cntC]
theorem QhA {t:Topo} {m:List Int} {s:Nat} (h:s<t.parents.length):nth (cntC t m) s=((m.filter fun x=>decide (QaY t x=s)).length:Int):=by
 rw [nth,List.getD_eq_getElem?_getD,List.getElem?_eq_getElem (by rw [Qhp];exact h)]
 simp [cntC]
theorem Qs7 (t:Topo):cntC t []=List.replicate t.parents.length 0:=by
 refine List.ext_getElem (by simp [cntC]) fun i h1 h2=>?_
 simp [cntC]
theorem Qqp {t:Topo} {m:List Int} {i:Nat} (h:i<m.length) (hl:QaY t (nth m i)<t.parents.length):cntC t (m.take (i+1))=(cntC t (m.take i)).set (QaY t (nth m i)) (nth (cntC t (m.take i)) (QaY t (nth m i))+1):=by
 have e:nth m i=m[i]:=by simp [nth,h]
 refine List.ext_getElem (by simp [cntC]) fun s h1 h2=>?_
 have hs:s<t.parents.length:=by simpa [cntC] using h1
 rw [List.getElem_set]
 by_cases hc:QaY t (nth m i)=s
 ·rw [if_pos hc,QhA hl,hc]
  simp only [cntC,List.getElem_map,List.getElem_range]
  rw [List.take_succ_eq_append_getElem h,List.filter_append,←e]
  simp [hc]
 ·rw [if_neg hc]
  simp only [cntC,List.getElem_map,List.getElem_range]
  rw [List.take_succ_eq_append_getElem h,List.filter_append,←e]
  simp [hc]
def lvS (o:List Int) (s:Int):List Int:=if hasI o s=true then o else o++[s]
def lvL (t:Topo) (m:List Int):List Int:=m.foldl (fun o x=>lvS o (QaY t x)) []
theorem Qtu {t:Topo} {m:List Int} {i:Nat} (h:i<m.length):lvL t (m.take (i+1))=lvS (lvL t (m.take i)) (QaY t (nth m i)):=by
 have e:nth m i=m[i]:=by simp [nth,h]
 rw [List.take_succ_eq_append_getElem h,lvL,List.foldl_append,e]
 rfl
theorem Qsm {t:Topo} {x:Int}:∀(m o:List Int),x∈m.foldl (fun o x=>lvS o (QaY t x)) o↔x∈o∨∃y∈m,(QaY t y:Int)=x
 | [],o=>by simp
 | y::m,o=>by
  rw [List.foldl_cons,Qsm m]
  unfold lvS
  split
  ·rename_i h
   have h:=Qc6.1 h
   constructor
   ·rintro (h|⟨z,hz,e⟩)
    ·exact .inl h
    ·exact .inr ⟨z,List.mem_cons_of_mem _ hz,e⟩
   ·rintro (h|⟨z,hz,e⟩)
    ·exact .inl h
    ·rcases List.mem_cons.1 hz with rfl|hz
     ·exact .inl (e▸h)
     ·exact .inr ⟨z,hz,e⟩
  ·rw [List.mem_append,List.mem_singleton]
   constructor
   ·rintro ((h|h)|⟨z,hz,e⟩)
    ·exact .inl h
    ·exact .inr ⟨y,List.mem_cons_self,h.symm⟩
    ·exact .inr ⟨z,List.mem_cons_of_mem _ hz,e⟩
   ·rintro (h|⟨z,hz,e⟩)
    ·exact .inl (.inl h)
    ·rcases List.mem_cons.1 hz with rfl|hz
     ·exact .inl (.inr e.symm)
     ·exact .inr ⟨z,hz,e⟩
theorem Qnm {t:Topo} {m:List Int} {x:Int}:x∈lvL t m↔∃y∈m,(QaY t y:Int)=x:=by
 rw [lvL,Qsm];simp
theorem Qu7 {t:Topo}:∀(m o:List Int),o.Nodup→(m.foldl (fun o x=>lvS o (QaY t x)) o).Nodup
 | [],_,h=>h
 | y::m,o,h=>by
  rw [List.foldl_cons]
  refine Qu7 m _ ?_
  unfold lvS
  split
  ·exact h
  ·rename_i hn
   rw [List.nodup_append]
   refine ⟨h,by simp,fun a ha b hb=>?_⟩
   rw [List.mem_singleton] at hb
   intro e
   exact hn (Qc6.2 (by rw [←hb,←e];exact ha))
theorem Qxa {t:Topo} {m:List Int}:(lvL t m).Nodup:=Qu7 m [] List.nodup_nil
theorem Qqv {t:Topo}:∀(m o:List Int),(m.foldl (fun o x=>lvS o (QaY t x)) o).length≤o.length+m.length
 | [],o=>by simp
 | y::m,o=>by
  rw [List.foldl_cons]
  have h:=Qqv (t:=t) m (lvS o (QaY t y))
  have:(lvS o (QaY t y)).length≤o.length+1:=by unfold lvS;split <;> simp
  simp only [List.length_cons]
  omega
theorem QvP {t:Topo} {m:List Int}:(lvL t m).length≤m.length:=by have:=Qqv (t:=t) m [];simpa [lvL] using this
def inS (t:Topo) (n lf:Int) (o:List Int) (x:Int):List Int:=if (QaY t x:Int)=lf∧(o.length:Int)<n then o++[x] else o
def inL (t:Topo) (n:Int) (m:List Int) (o:List Int) (lf:Int):List Int:=m.foldl (inS t n lf) o
def outL (t:Topo) (n:Int) (m:List Int) (L:List Int):List Int:=L.foldl (inL t n m) []
theorem QuC {t:Topo} {n lf:Int} {m o:List Int} {i:Nat} (h:i<m.length):inL t n (m.take (i+1)) o lf=inS t n lf (inL t n (m.take i) o lf) (nth m i):=by
 have e:nth m i=m[i]:=by simp [nth,h]
 rw [List.take_succ_eq_append_getElem h,inL,List.foldl_append,e]
 rfl
theorem Qlz {t:Topo} {n:Int} {m L:List Int} {i:Nat} (h:i<L.length):outL t n m (L.take (i+1))=inL t n m (outL t n m (L.take i)) (nth L i):=by
 have e:nth L i=L[i]:=by simp [nth,h]
 rw [List.take_succ_eq_append_getElem h,outL,List.foldl_append,e]
 rfl
theorem Qom {t:Topo} {n lf:Int}:∀(m o:List Int),(o.length:Int)≤n→inL t n m o lf=(o++m.filter fun x=>decide ((QaY t x:Int)=lf)).take n.toNat
 | [],o,h=>by rw [List.filter_nil,List.append_nil,List.take_of_length_le (by omega)];rfl
 | x::m,o,h=>by
  show inL t n m (inS t n lf o x) lf=_
  unfold inS
  by_cases h1:(QaY t x:Int)=lf
  ·rw [List.filter_cons_of_pos (by simpa using h1)]
   by_cases h2:(o.length:Int)<n
   ·rw [if_pos ⟨h1,h2⟩,Qom m _ (by simp;omega),List.append_assoc]
    rfl
   ·rw [if_neg (fun e=>h2 e.2),Qom m _ h]
    have e:n.toNat=o.length:=by omega
    rw [e]
    simp
  ·rw [if_neg (fun e=>h1 e.1),Qom m _ h,List.filter_cons_of_neg (by simpa using h1)]
def flM (t:Topo) (m:List Int) (L:List Int):List Int:=L.flatMap fun lf=>m.filter fun x=>decide ((QaY t x:Int)=lf)
theorem Qkv {t:Topo} {n:Int} {m:List Int} (hn:0≤n) (L:List Int):∀(i:Nat),i≤L.length→outL t n m (L.take i)=(flM t m (L.take i)).take n.toNat
 | 0,_=>by simp [outL,flM]
 | i+1,h=>by
  rw [Qlz (by omega),Qkv hn L i (by omega),Qom _ _ (by rw [List.length_take];omega)]
  have e:nth L i=L[i]:=by simp [nth,show i<L.length by omega]
  rw [List.take_succ_eq_append_getElem (by omega),flM,flM,List.flatMap_append,e]
  generalize List.flatMap _ (List.take i L)=a
  simp only [List.flatMap_cons,List.flatMap_nil,List.append_nil]
  rw [List.take_append,List.take_append,List.take_take,Nat.min_self,List.length_take]
  congr 2
  omega
end Go.Proofs.YtelbahebpmkfjaaGreat
namespace Go.Proofs.YtelbahebpmkfjaaGreat
open Go Go.RowKit
attribute [local irreducible] AWp Qat OpOk ACalls ChA QsOk MCalls EnC PY

def lowS (t:Topo) (b:Int):Int:=if b<0 then 0 else lvl t.parents b.toNat
def fewS (t:Topo) (l:List Int) (b:Int):Nat:=if b<0 then 0 else cntU t l b.toNat
def choE (t:Topo) (m:List Int) (n:Int):List Int:=srtI (outL t n m (srtM (cntC t m) (lvL t m)))
@[reducible] def optR (o:Option (List Int)):List AV:=match o with
 | none=>[.d (.sl []),.d (.b false)]
 | some _=>[.row 0,.d (.b true)]
@[reducible] def optB (o:Option (List Int)):List (Nat×AO):=match o with
 | none=>[]
 | some l=>[(0,.row 3 (intE l) true)]
abbrev OR (f:FuncId) (args:List AV) (o:Option (List Int)):Prop:=MCalls Tryz.prog f args [] (fun _:Unit=>True) (fun _=>optR o) (fun _=>[]) (fun _=>optB o)
theorem Qtx {t:Topo} {l:List Int} {n most:Int} (ht:TopoOk t) (hl:Qbj t l) (hn:1≤n) (hll:l.length≤100000):OR 267 [Qcw t,.d (.sl (intE l)),.d (.n .i64 n),.d (.n .i64 most)] (if swI t l n most<0 then none else some (choE t (Qa9 t l (swI t l n most)) n)):=by
  refine Qag tt Tryz.func267 rfl rfl rfl trivial (fun _ _=>⟨trivial,trivial⟩) (fun w0 Z O=>?_)
  have htl:=ht.len
  have htn:=ht.nlen
  have hle:=Qad l
  repeat' (first|refine zst ?_|(refine zhm fun hb=>?_;try exact zab)|refine zg2 ?_ ?_|refine zln fun _=>?_|refine zop ?_|fail)
  refine Qae (fun (i:Nat)=>⟨146,[(1,.d (.sl (intE l))),(2,.d (.n .i64 n)),(3,.d (.n .i64 most)),(4,.ptr 4 0),(10,.d (.n .i64 (swU t l n most i))),(11,.d (.n .i64 (lowS t (swU t l n most i)))),(12,.d (.n .i64 (fewS t l (swU t l n most i):Nat))),(28,.d (.n .i64 (t.parents.length:Nat))),(29,.d (.n .i64 i))],[(4,.box 37 (QcU t))]⟩) (fun i=>i≤t.parents.length) (fun i=>t.parents.length - i) 0 (by exact Nat.zero_le _) ?_ ?_
  · refine ⟨rfl,?_,?_,rfl⟩
    repeat'(first|apply And.intro|exact ze0|refine ze1 ?_|refine zei ?_ ?_|exact rfl|trivial)
    all_goals exact Stop.mk (by first|rfl|exact Qad _)
  intro k hk0
  by_cases hi':k<t.parents.length
  · have hb:=QlF (t:=t) (l:=l) (n:=n) (most:=most) k
    have hst:=Qt5 (t:=t) (l:=l) (n:=n) (most:=most) (i:=k)
    unfold swS at hst
    have hul:=QbT (t:=t) (l:=l) (s:=(k:Int))
    have hcu:(Qa9 t l (k:Int)).length=cntU t l k:=rfl
    have c1:=Qqh (t:=t) (l:=l) (s:=(k:Int)) ht hl (by omega)
    have c2:=Qkj ht hi'
    have hkk:¬((k:Nat):Int)<0:=by omega
    have hl1:lowS t ((k:Nat):Int)=lvl t.parents k:=if_neg hkk
    have hf1:fewS t l ((k:Nat):Int)=cntU t l k:=if_neg hkk
    by_cases hneg:swU t l n most k<0
    · repeat' (first|refine zst ?_|(refine zhm fun hb=>?_;try exact zab)|refine zg2 ?_ ?_|refine zln fun _=>?_|refine zop ?_|refine kc (c2) rfl rfl ?_|(refine km [] (c1) rfl rfl (fun i hi=>?_);(try dsimp only at hi))|fail)
      all_goals
        refine ⟨k+1,by omega,by omega,?_⟩
        refine ⟨rfl,?_,?_,rfl⟩
        repeat'(first|apply And.intro|exact ze0|refine ze1 ?_|refine zei ?_ ?_|exact rfl|trivial)
        all_goals exact Stop.mk (by first|rfl|(rw [hst,if_pos ⟨by omega,by omega,.inl (by omega)⟩];first|rfl|rw [hl1]|rw [hf1])|(rw [hst,if_neg (fun h=>by omega)]))
    · have hl2:lowS t (swU t l n most k)=lvl t.parents (swU t l n most k).toNat:=if_neg hneg
      have hf2:fewS t l (swU t l n most k)=cntU t l (swU t l n most k).toNat:=if_neg hneg
      repeat' (first|refine zst ?_|(refine zhm fun hb=>?_;try exact zab)|refine zg2 ?_ ?_|refine zln fun _=>?_|refine zop ?_|refine kc (c2) rfl rfl ?_|(refine km [] (c1) rfl rfl (fun i hi=>?_);(try dsimp only at hi))|fail)
      all_goals
        refine ⟨k+1,by omega,by omega,?_⟩
        refine ⟨rfl,?_,?_,rfl⟩
        repeat'(first|apply And.intro|exact ze0|refine ze1 ?_|refine zei ?_ ?_|exact rfl|trivial)
        all_goals exact Stop.mk (by first|rfl|(rw [hst,if_pos ⟨by omega,by omega,.inr (.inl (by omega))⟩];first|rfl|rw [hl1]|rw [hf1])|(rw [hst,if_pos ⟨by omega,by omega,.inr (.inr ⟨by omega,by omega⟩)⟩];first|rfl|rw [hl1]|rw [hf1])|(rw [hst,if_neg (fun h=>by omega)]))
  obtain rfl:k=t.parents.length:=by omega
  have hin:=QlF (t:=t) (l:=l) (n:=n) (most:=most) t.parents.length
  have hok:=Qk5 (t:=t) (l:=l) (n:=n) (most:=most) t.parents.length
  rw [show swU t l n most t.parents.length=swI t l n most from rfl] at hin hok ⊢
  by_cases hneg:swI t l n most<0
  · rw [if_pos hneg]
    repeat' (first|refine zsr ?_|(refine zhm fun hb=>?_;try exact zab)|refine zg2 ?_ ?_|refine zln fun _=>?_|refine zop ?_|fail)
    show AWp _ _ _ _
    refine Qac ?_
    apply Qab
    exact zm () [] trivial zae zae zae
  rw [if_neg hneg]
  have hs0:((swI t l n most).toNat:Int)=swI t l n most:=by omega
  have hcn:=hok (by omega)
  unfold cntU at hcn
  rw [hs0] at hcn
  have c3:=Qqh (t:=t) (l:=l) (s:=swI t l n most) ht hl (by omega)
  have hml:=QbT (t:=t) (l:=l) (s:=swI t l n most)
  have hmi:=Qdj (s:=swI t l n most) hl
  generalize Qa9 t l (swI t l n most)=m at hcn c3 hml hmi ⊢
  have hmf:=QdJ ht hmi
  have hle2:=Qad m
  repeat' (first|refine zst ?_|(refine zhm fun hb=>?_;try exact zab)|refine zg2 ?_ ?_|refine zln fun _=>?_|refine zop ?_|(refine km [] (c3) rfl rfl (fun i hi=>?_);(try dsimp only at hi))|fail)
  refine Qae (fun (i:Nat)=>⟨146,[(1,.d (.sl (intE m))),(2,.d (.n .i64 n)),(4,.ptr 4 0),(16,.ptr 16 0),(17,.row 79),(80,.d (.sl (intE m))),(81,.d (.n .i64 (m.length:Nat))),(82,.d (.n .i64 i))],[(4,.box 37 (QcU t)),(16,.box 22 [.row 78]),(78,.row 3 (intE (cntC t (m.take i))) true),(79,.row 3 (intE (lvL t (m.take i))) true)]⟩) (fun i=>i≤m.length) (fun i=>m.length - i) 0 (by exact Nat.zero_le _) ?_ ?_
  · refine ⟨rfl,?_,?_,rfl⟩
    repeat'(first|apply And.intro|exact ze0|refine ze1 ?_|refine zei ?_ ?_|exact rfl|trivial)
    all_goals exact Stop.mk (by first|rfl|exact Qad _|(rw [List.take_zero,Qs7];simp [intE]))
  intro k hk
  have hll2:=QvP (t:=t) (m:=m.take k)
  rw [List.length_take] at hll2
  by_cases hk':k<m.length
  · have hin:=hmi k hk'
    obtain ⟨hlf,hlf2⟩:=hmf _ (QaO hk')
    obtain ⟨_,hnl⟩:=ht.leaf hmi hk'
    have hst:=Qqp (t:=t) hk' hlf
    have hst2:=Qtu (t:=t) hk'
    have hcl:=Qhp t (m.take k)
    have hcn2:=QhA (t:=t) (m:=m.take k) hlf
    have hflt:((m.take k).filter fun x=>decide (QaY t x=QaY t (nth m k))).length≤k:=Nat.le_trans (List.length_filter_le _ _) (by rw [List.length_take];omega)
    have c4:=Qdk (l:=lvL t (m.take k)) (x:=(QaY t (nth m k):Int)) (by omega)
    have hnat:nth m k=((nth m k).toNat:Int):=by omega
    have hbd:0≤nth (cntC t (m.take k)) (nth t.nodes (nth m k).toNat).leaf.toNat∧nth (cntC t (m.take k)) (nth t.nodes (nth m k).toNat).leaf.toNat≤k:=by
      show 0≤nth (cntC t (m.take k)) (QaY t (nth m k))∧_≤_
      rw [hcn2]
      show _∧nth (cntC t (m.take k)) (QaY t (nth m k))≤_
      rw [hcn2]
      omega
    obtain ⟨h1,_,_⟩:=ht.nodes (nth m k).toNat (by omega)
    unfold lvS at hst2
    have hel:(intE (cntC t (m.take k))).length=t.parents.length:=by rw [Qad,Qhp]
    cases hh:hasI (lvL t (m.take k)) (QaY t (nth m k)) with
    | true=>
      rw [hh] at c4
      rw [if_pos hh] at hst2
      rw [←hnl] at c4
      repeat' (first|refine zst ?_|(refine zhm fun hb=>?_;try exact zab)|refine zg2 ?_ ?_|refine zln fun _=>?_|refine zon ?_|refine kc (c4) rfl rfl ?_|fail)
      refine ⟨k+1,by omega,by omega,?_⟩
      refine ⟨rfl,?_,?_,rfl⟩
      repeat'(first|apply And.intro|exact ze0|refine ze1 ?_|refine zei ?_ ?_|exact rfl|trivial)
      all_goals exact Stop.mk (by first|rfl|rw [hst2]|(rw [hst];exact (QkS _ _ _)))
    | false=>
      rw [hh] at c4
      rw [if_neg (by rw [hh];simp)] at hst2
      rw [←hnl] at c4
      repeat' (first|refine zst ?_|(refine zhm fun hb=>?_;try exact zab)|refine zg2 ?_ ?_|refine zln fun _=>?_|refine zon ?_|refine kc (c4) rfl rfl ?_|fail)
      refine ⟨k+1,by omega,by omega,?_⟩
      refine ⟨rfl,?_,?_,rfl⟩
      repeat'(first|apply And.intro|exact ze0|refine ze1 ?_|refine zei ?_ ?_|exact rfl|trivial)
      all_goals exact Stop.mk (by first|rfl|(rw [hst2,hnl];exact Qbg _ _)|(rw [hst];exact (QkS _ _ _)))
  obtain rfl:k=m.length:=by omega
  rw [List.take_length] at *
  have hcl:=Qhp t m
  have hcb:∀j,j<(cntC t m).length→-1000000≤nth (cntC t m) j∧nth (cntC t m) j≤1000000:=fun j hj=>by
    rw [QhA (by omega)]
    have:=List.length_filter_le (fun x=>decide (QaY t x=j)) m
    omega
  have hlv:∀x∈lvL t m,0≤x∧x<((cntC t m).length:Int):=fun x hx=>by
    obtain ⟨y,hy,rfl⟩:=Qnm.1 hx
    have:=(hmf y hy).1
    omega
  have hpos:0<(lvL t m).length:=by
    refine List.length_pos_iff.2 fun e=>?_
    have h1:(QaY t (nth m 0):Int)∈lvL t m:=Qnm.2 ⟨_,QaO (by omega),rfl⟩
    rw [e] at h1
    cases h1
  have c5:=Qvz (c:=cntC t m) (l:=lvL t m) (dd:=true) hpos hlv (by omega) hcb (by omega)
  unfold choE
  have hsl:=QfE (cntC t m) (lvL t m)
  have hsm:∀j,j<(srtM (cntC t m) (lvL t m)).length→0≤nth (srtM (cntC t m) (lvL t m)) j∧nth (srtM (cntC t m) (lvL t m)) j<1000000:=fun j hj=>by
    have:=hlv _ (Qn0.1 (QaO hj))
    omega
  generalize srtM (cntC t m) (lvL t m)=L at c5 hsl hsm ⊢
  generalize lvL t m=lv at *
  generalize cntC t m=cc at *
  have hle3:=Qad L
  repeat' (first|(refine Qaj 24 78 rfl ?_)|(refine QcN 24 16 rfl rfl ?_)|(refine Qaj 26 79 rfl ?_)|refine zst ?_|(refine zhm fun hb=>?_;try exact zab)|refine zg2 ?_ ?_|refine zln fun _=>?_|refine zop ?_|(refine km [79] (c5) rfl rfl (fun i hi=>?_);(try dsimp only at hi))|fail)
  refine Qae (fun (i:Nat)=>⟨146,[(1,.d (.sl (intE m))),(2,.d (.n .i64 n)),(4,.ptr 4 0),(21,.row 110),(111,.d (.sl (intE L))),(112,.d (.n .i64 (L.length:Nat))),(113,.d (.n .i64 i))],[(4,.box 37 (QcU t)),(110,.row 3 (intE (outL t n m (L.take i))) true)]⟩) (fun i=>i≤L.length) (fun i=>L.length - i) 0 (by exact Nat.zero_le _) ?_ ?_
  · refine ⟨rfl,?_,?_,rfl⟩
    repeat'(first|apply And.intro|exact ze0|refine ze1 ?_|refine zei ?_ ?_|exact rfl|trivial)
    all_goals exact Stop.mk (by first|rfl|exact Qad _)
  intro i hi
  by_cases hil:i<L.length
  · have hst:=Qlz (t:=t) (n:=n) (m:=m) hil
    have hsmi:=hsm i hil
    generalize hlf:nth L i=lf at hst hsmi
    generalize outL t n m (L.take i)=o at hst ⊢
    repeat' (first|refine zst ?_|(refine zhm fun hb=>?_;try exact zab)|refine zg2 ?_ ?_|refine zln fun _=>?_|refine zop ?_|fail)
    refine Qae (fun (j:Nat)=>⟨146,[(1,.d (.sl (intE m))),(2,.d (.n .i64 n)),(4,.ptr 4 0),(21,.row 110),(23,.d (.n .i64 lf)),(111,.d (.sl (intE L))),(112,.d (.n .i64 (L.length:Nat))),(113,.d (.n .i64 i)),(117,.d (.sl (intE m))),(118,.d (.n .i64 (m.length:Nat))),(119,.d (.n .i64 j))],[(4,.box 37 (QcU t)),(110,.row 3 (intE (inL t n (m.take j) o lf)) true)]⟩) (fun j=>j≤m.length) (fun j=>m.length - j) 0 (by exact Nat.zero_le _) ?_ ?_
    · refine ⟨rfl,?_,?_,rfl⟩
      repeat'(first|apply And.intro|exact ze0|refine ze1 ?_|refine zei ?_ ?_|exact rfl|trivial)
      all_goals exact Stop.mk (by first|rfl|exact Qad _|rw [←hlf])
    intro j hj
    by_cases hjl:j<m.length
    · have hin:=hmi j hjl
      obtain ⟨h1,_,_⟩:=ht.nodes (nth m j).toNat (by omega)
      obtain ⟨_,hnl⟩:=ht.leaf hmi hjl
      have hnat:nth m j=((nth m j).toNat:Int):=by omega
      have hst2:=QuC (t:=t) (n:=n) (lf:=lf) (o:=o) hjl
      unfold inS at hst2
      rw [←hnl] at hst2
      generalize inL t n (m.take j) o lf=q at hst2 ⊢
      by_cases hq:(nth t.nodes (nth m j).toNat).leaf=lf∧(q.length:Int)<n
      · rw [if_pos hq] at hst2
        obtain ⟨hq1,hq2⟩:=hq
        repeat' (first|refine zst ?_|(refine zhm fun hb=>?_;try exact zab)|refine zg2 ?_ ?_|refine zln fun _=>?_|refine zop ?_|fail)
        refine ⟨j+1,by omega,by omega,?_⟩
        refine ⟨rfl,?_,?_,rfl⟩
        repeat'(first|apply And.intro|exact ze0|refine ze1 ?_|refine zei ?_ ?_|exact rfl|trivial)
        all_goals exact Stop.mk (by first|rfl|(rw [hst2];exact Qbg _ _))
      · rw [if_neg hq] at hst2
        repeat' (first|refine zst ?_|(refine zhm fun hb=>?_;try exact zab)|refine zg2 ?_ ?_|refine zln fun _=>?_|refine zop ?_|fail)
        all_goals first
          | exact absurd ⟨by omega,by omega⟩ hq
          | (refine ⟨j+1,by omega,by omega,?_⟩
             refine ⟨rfl,?_,?_,rfl⟩
             repeat'(first|apply And.intro|exact ze0|refine ze1 ?_|refine zei ?_ ?_|exact rfl|trivial)
             all_goals exact Stop.mk (by first|rfl|rw [hst2]))
    · obtain rfl:j=m.length:=by omega
      rw [List.take_length] at *
      repeat' (first|refine zst ?_|(refine zhm fun hb=>?_;try exact zab)|refine zg2 ?_ ?_|refine zln fun _=>?_|refine zop ?_|fail)
      refine ⟨i+1,by omega,by omega,?_⟩
      refine ⟨rfl,?_,?_,rfl⟩
      repeat'(first|apply And.intro|exact ze0|refine ze1 ?_|refine zei ?_ ?_|exact rfl|trivial)
      all_goals exact Stop.mk (by first|rfl|rw [hst])
  · obtain rfl:i=L.length:=by omega
    rw [List.take_length] at *
    have hol:(outL t n m L).length≤1000000:=by
      have h:=Qkv (t:=t) (m:=m) (n:=n) (by omega) L L.length (Nat.le_refl _)
      rw [List.take_length] at h
      rw [h,List.length_take]
      omega
    have c6:=Qrg (l:=outL t n m L) (d:=true) (by omega)
    have hol2:=QbJ (outL t n m L)
    repeat' (first|refine zsr ?_|(refine zhm fun hb=>?_;try exact zab)|refine zg2 ?_ ?_|refine zln fun _=>?_|refine zop ?_|(refine km [110] (c6) rfl rfl (fun i hi=>?_);(try dsimp only at hi))|fail)
    show AWp _ _ _ _
    refine Qac ?_
    apply Qab
    exact zm () [110] trivial zae zae zae
end Go.Proofs.YtelbahebpmkfjaaGreat
namespace Go.Proofs.YtelbahebpmkfjaaGreat
open Go Go.RowKit Go.Sort

theorem Qie (n:Int):∀(l:List Int),(rise n l).Perm (n::l)
 | []=>List.Perm.refl _
 | x::l=>by
  unfold rise
  split
  ·exact List.Perm.refl _
  ·exact ((Qie n l).cons x).trans (List.Perm.swap n x l)
theorem QpT (n:Int):∀(l:List Int),l.Pairwise (·≤·)→(rise n l).Pairwise (·≤·)
 | [],_=>by simp [rise]
 | x::l,h=>by
  unfold rise
  have h':=List.pairwise_cons.1 h
  split
  ·rename_i hn
   refine List.pairwise_cons.2 ⟨fun y hy=>?_,h⟩
   rcases List.mem_cons.1 hy with rfl|hy
   ·omega
   ·have:=h'.1 y hy;omega
  ·rename_i hn
   refine List.pairwise_cons.2 ⟨fun y hy=>?_,QpT n l h'.2⟩
   rcases List.mem_cons.1 ((Qie n l).mem_iff.1 hy) with rfl|hy
   ·omega
   ·exact h'.1 y hy
def insF (q:List Int):List Int:=q.foldl (fun o x=>rise x o) []
theorem Qrh:∀(q o:List Int),o.Pairwise (·≤·)→(q.foldl (fun o x=>rise x o) o).Pairwise (·≤·)∧(q.foldl (fun o x=>rise x o) o).Perm (o++q)
 | [],o,h=>⟨h,by rw [List.append_nil];exact List.Perm.refl _⟩
 | x::q,o,h=>by
  obtain ⟨h1,h2⟩:=Qrh q (rise x o) (QpT x o h)
  refine ⟨h1,h2.trans ?_⟩
  exact (((Qie x o).append_right q).trans (List.perm_middle (l₁:=o) (l₂:=q) (a:=x)).symm)
theorem Qoa (q:List Int):insF q=srtI q:=by
 obtain ⟨h1,h2⟩:=Qrh q [] List.Pairwise.nil
 refine List.Perm.eq_of_pairwise (le:=(·≤·)) (fun a b _ _ h1 h2=>by omega) h1 (Qm3 q) (h2.trans ?_)
 rw [List.nil_append]
 exact (List.mergeSort_perm q _).symm
theorem QnV (q:List Int):(insF q).length=q.length:=by rw [Qoa,QbJ]
theorem Qt1 (q:List Int) (x:Int):insF (q++[x])=rise x (insF q):=by unfold insF;rw [List.foldl_append];rfl
theorem Qin {n:Int}:∀(g q:List Int),(q.length:Int)≤n→QdS n (insF q) g=insF ((q++g).take n.toNat)
 | [],q,h=>by
  rw [List.append_nil,List.take_of_length_le (by omega)]
  rfl
 | x::g,q,h=>by
  have e:QdS n (insF q) (x::g)=QdS n (if ((insF q).length:Int)<n then rise x (insF q) else insF q) g:=rfl
  rw [e,QnV]
  by_cases hq:(q.length:Int)<n
  ·rw [if_pos hq,←Qt1,Qin g _ (by simp;omega),List.append_assoc]
   rfl
  ·rw [if_neg hq,Qin g q h]
   have e:n.toNat=q.length:=by omega
   rw [e]
   simp
theorem QnJ {t:Topo} {m tk:List Int}:∀(i s:Nat),s<i→cand t m tk s→cntU t m s<cntU t m (lfU t m tk i).toNat∨cntU t m s=cntU t m (lfU t m tk i).toNat∧lfU t m tk i≤s
 | 0,_,h,_=>absurd h (Nat.not_lt_zero _)
 | i+1,s,h,hc=>by
  have h1:=(Qqj (t:=t) (m:=m) (tk:=tk) i).2
  have h2:=(Qnv (t:=t) (l:=m) (tk:=tk) i).2
  rw [QtO]
  unfold lfS
  by_cases hs:s=i
  ·subst hs
   split
   ·exact .inr ⟨by simp,by simp⟩
   ·rename_i hn
    by_cases hb:lfU t m tk s<0
    ·exact absurd ⟨hc.1,hc.2.1,hc.2.2,.inl hb⟩ hn
    ·by_cases hb2:cntU t m (lfU t m tk s).toNat<cntU t m s
     ·exact absurd ⟨hc.1,hc.2.1,hc.2.2,.inr hb2⟩ hn
     ·omega
  ·have ih:=QnJ i s (by omega) hc
   have h0:=h1 s (by omega) hc
   split
   ·rename_i hn
    have e:((i:Nat):Int).toNat=i:=by simp
    rw [e]
    omega
   ·exact ih
theorem QlU {t:Topo} (ht:TopoOk t) {m:List Int} (hm:∀x∈m,QaY t x<t.parents.length) {s:Nat} (hs:QcQ t.parents (s:Int)=true) (hl:s<t.parents.length):(cntU t m s:Int)=nth (cntC t m) s:=by
 rw [QhA hl]
 unfold cntU
 rw [Qc0 ht hm hs]
def ordM (t:Topo) (m:List Int):List Int:=srtM (cntC t m) (lvL t m)
theorem Qhq {t:Topo} {m:List Int} {x:Int}:x∈ordM t m↔∃y∈m,(QaY t y:Int)=x:=by rw [ordM,Qn0,Qnm]
theorem Qv7 {t:Topo} {m:List Int}:(ordM t m).Nodup:=((List.mergeSort_perm _ _).nodup_iff).2 Qxa
theorem Qwq {t:Topo} {m:List Int}:(ordM t m).Pairwise fun x y=>¬cfM (cntC t m) y x<0:=by
 have h:=List.pairwise_mergeSort (le:=fun x y=>!decide (cfM (cntC t m) y x<0)) (fun a b c h1 h2=>?_) (fun a b=>?_) (lvL t m)
 ·exact h.imp fun h=>by simpa using h
 ·have h1:¬cfM (cntC t m) b a<0:=by simpa using h1
  have h2:¬cfM (cntC t m) c b<0:=by simpa using h2
  have:¬cfM (cntC t m) c a<0:=by rw [Qfv] at *;omega
  simpa using this
 ·by_cases h:cfM (cntC t m) b a<0
  ·have:¬cfM (cntC t m) a b<0:=by rw [Qfv] at *;omega
   simp [this]
  ·simp [h]
theorem QwO {t:Topo} (ht:TopoOk t) {m:List Int} (hm:∀x∈m,QaY t x<t.parents.length∧QcQ t.parents (QaY t x:Int)=true) {i:Nat} (hi:i<(ordM t m).length):lfI t m ((ordM t m).take i)=nth (ordM t m) i:=by
 have hm1:∀x∈m,QaY t x<t.parents.length:=fun x hx=>(hm x hx).1
 have hin:nth (ordM t m) i∈ordM t m:=QaO hi
 have hLi:nth (ordM t m) i=(ordM t m)[i]:=by simp [nth,hi]
 obtain ⟨y,hy,hye⟩:=Qhq.1 hin
 obtain ⟨hy1,hy2⟩:=hm y hy
 have hnot:hasI ((ordM t m).take i) (nth (ordM t m) i)=false:=by
  cases hh:hasI ((ordM t m).take i) (nth (ordM t m) i) with
  | false=>rfl
  | true=>
   obtain ⟨j,hj,e⟩:=List.getElem_of_mem (Qc6.1 hh)
   rw [List.length_take] at hj
   rw [List.getElem_take,hLi] at e
   exact absurd e (List.pairwise_iff_getElem.1 (Qv7 (t:=t) (m:=m)) j i (by omega) hi (by omega))
 have hc:cand t m ((ordM t m).take i) (QaY t y):=by
  refine ⟨?_,Qgs.2 hy2,by rw [hye];exact hnot⟩
  unfold cntU
  rw [Qc0 ht hm1 hy2]
  exact List.length_pos_iff.2 (List.ne_nil_of_mem (List.mem_filter.2 ⟨hy,by simp⟩))
 obtain ⟨⟨g1,g2⟩,g3,g4,g5⟩:=QuT hy1 hc
 have hb:=QnJ (t:=t) (m:=m) (tk:=(ordM t m).take i) t.parents.length (QaY t y) hy1 hc
 rw [show lfU t m ((ordM t m).take i) t.parents.length=lfI t m ((ordM t m).take i) from rfl] at hb
 generalize lfI t m ((ordM t m).take i)=b at *
 have hbn:((b.toNat:Nat):Int)=b:=by omega
 rw [hbn] at g4 g5
 have hbl:=Qgs.1 g4
 have hbm:b∈ordM t m:=by
  unfold cntU at g3
  rw [Qc0 ht hm1 (by rw [hbn];exact hbl)] at g3
  obtain ⟨z,hz⟩:=List.exists_mem_of_length_pos g3
  obtain ⟨hz1,hz2⟩:=List.mem_filter.1 hz
  exact Qhq.2 ⟨z,hz1,by have:=of_decide_eq_true hz2;omega⟩
 obtain ⟨j,hj,hjb⟩:=List.getElem_of_mem hbm
 have hij:i≤j:=by
  refine Nat.le_of_not_lt fun hlt=>?_
  have:b∈(ordM t m).take i:=by
   rw [←hjb]
   exact List.mem_take_iff_getElem.2 ⟨j,by omega,rfl⟩
  rw [Qc6.2 this] at g5
  cases g5
 by_cases hje:i=j
 ·subst hje;rw [hLi];exact hjb.symm
 ·have hp:=List.pairwise_iff_getElem.1 (Qwq (t:=t) (m:=m)) i j hi hj (by omega)
  rw [hjb,←hLi,Qfv] at hp
  have e1:=QlU ht hm1 (s:=b.toNat) (by rw [hbn];exact hbl) (by omega)
  have e2:=QlU ht hm1 hy2 hy1
  have e3:(nth (ordM t m) i).toNat=QaY t y:=by omega
  rw [e3] at hp
  omega
theorem QnU {t:Topo} {m L:List Int} {i:Nat} (h:i<L.length):flM t m (L.take (i+1))=flM t m (L.take i)++m.filter fun x=>decide ((QaY t x:Int)=nth L i):=by
 have e:nth L i=L[i]:=by simp [nth,h]
 rw [List.take_succ_eq_append_getElem h,flM,List.flatMap_append,e]
 simp [flM]
theorem QqP {t:Topo} {m L:List Int}:∀(k i:Nat),i+k=L.length→∃r,flM t m L=flM t m (L.take i)++r
 | 0,i,h=>⟨[],by rw [List.take_of_length_le (by omega),List.append_nil]⟩
 | k+1,i,h=>by
  obtain ⟨r,hr⟩:=QqP (t:=t) (m:=m) (L:=L) k (i+1) (by omega)
  rw [QnU (by omega),List.append_assoc] at hr
  exact ⟨_,hr⟩
theorem Qsp {t:Topo} (ht:TopoOk t) {m:List Int} {n:Int} (hm:∀x∈m,QaY t x<t.parents.length∧QcQ t.parents (QaY t x:Int)=true) (hn:n≤m.length) (hn0:0≤n):∀(f i:Nat),i≤(ordM t m).length→untk t ((ordM t m).take i)<f→ChJ t m n (insF ((flM t m ((ordM t m).take i)).take n.toNat)) ((ordM t m).take i)→
  chR t m n f (insF ((flM t m ((ordM t m).take i)).take n.toNat)) ((ordM t m).take i)=insF ((flM t m (ordM t m)).take n.toNat)
 | 0,_,_,h,_=>absurd h (Nat.not_lt_zero _)
 | f+1,i,hi,hf,hj=>by
  unfold chR
  have hlen:=QnV ((flM t m ((ordM t m).take i)).take n.toNat)
  rw [List.length_take] at hlen
  split
  ·rename_i hl
   have hi':i<(ordM t m).length:=by
    refine Nat.lt_of_le_of_ne hi fun e=>?_
    obtain ⟨x,hx,hh⟩:=Qr7 (t:=t) (m:=m) (tk:=(ordM t m).take i) (by have:=hj.len;omega)
    have:(QaY t x:Int)∈ordM t m:=Qhq.2 ⟨x,hx,rfl⟩
    rw [e,List.take_length,Qc6.2 this] at hh
    cases hh
   obtain ⟨g1,g2,g3⟩:=Qn6 ht hm hn hj hl
   have hlf:=QwO ht hm hi'
   rw [hlf] at g1 g2 g3 ⊢
   have htk:(ordM t m).take i++[nth (ordM t m) i]=(ordM t m).take (i+1):=by
    rw [List.take_succ_eq_append_getElem hi']
    simp [nth,hi']
   have hlv:QcQ t.parents (nth (ordM t m) i)=true:=by
    obtain ⟨y,hy,e⟩:=Qhq.1 (QaO hi')
    rw [←e];exact (hm y hy).2
   have hun:Qa9 t m (nth (ordM t m) i)=m.filter fun x=>decide ((QaY t x:Int)=nth (ordM t m) i):=by
    have e:((nth (ordM t m) i).toNat:Int)=nth (ordM t m) i:=by omega
    rw [←e,Qc0 ht (fun x hx=>(hm x hx).1) (by rw [e];exact hlv)]
    refine List.filter_congr fun x _=>?_
    rw [Bool.eq_iff_iff,decide_eq_true_eq,decide_eq_true_eq]
    omega
   have hout:QdS n (insF ((flM t m ((ordM t m).take i)).take n.toNat)) (Qa9 t m (nth (ordM t m) i))=insF ((flM t m ((ordM t m).take (i+1))).take n.toNat):=by
    rw [hun,QnU hi',Qin _ _ (by rw [List.length_take];omega),List.take_of_length_le (l:=flM t m ((ordM t m).take i)) (by omega)]
   rw [htk,hout] at g2
   rw [htk] at g3 ⊢
   rw [hout]
   exact Qsp ht hm hn hn0 f (i+1) (by omega) (by omega) g2
  ·obtain ⟨r,hr⟩:=QqP (t:=t) (m:=m) (L:=ordM t m) ((ordM t m).length - i) i (by omega)
   rw [hr,List.take_append_of_le_length (by omega)]
theorem Qox {t:Topo} (ht:TopoOk t) {m:List Int} {n:Int} (hm:∀x∈m,QaY t x<t.parents.length∧QcQ t.parents (QaY t x:Int)=true) (hn:n≤m.length) (hn0:0≤n):choE t m n=chR t m n (t.parents.length+1) [] []:=by
 have h:=Qsp ht hm hn hn0 (t.parents.length+1) 0 (Nat.zero_le _) (by have:=QmF t [];rw [List.take_zero];omega) ⟨by rw [List.take_zero,QuM];simp [flM,insF];omega⟩
 rw [List.take_zero] at h
 have e0:insF ((flM t m []).take n.toNat)=[]:=by simp [flM,insF]
 rw [e0] at h
 rw [h,Qoa]
 have e1:=Qkv (t:=t) (m:=m) hn0 (ordM t m) (ordM t m).length (Nat.le_refl _)
 rw [List.take_length] at e1
 unfold choE
 rw [show srtM (cntC t m) (lvL t m)=ordM t m from rfl,e1]
theorem QpD {t:Topo} {l r:List Int} {n most:Int} (ht:TopoOk t) (hl:Qbj t l) (hn:1≤n) (h:QdB t l n most=some r):(r.length:Int)≤n:=by
 unfold QdB at h
 split at h
 ·cases h
 ·have hok:=Qk5 (t:=t) (l:=l) (n:=n) (most:=most) t.parents.length
  rw [show swU t l n most t.parents.length=swI t l n most from rfl] at hok
  have hcn:=hok (by omega)
  unfold cntU at hcn
  rw [show ((swI t l n most).toNat:Int)=swI t l n most by omega] at hcn
  rw [←Qox ht (QdJ ht (Qdj hl)) hcn (by omega)] at h
  injection h with h
  subst h
  have e1:=Qkv (t:=t) (m:=Qa9 t l (swI t l n most)) (n:=n) (by omega) (srtM (cntC t (Qa9 t l (swI t l n most))) (lvL t (Qa9 t l (swI t l n most)))) _ (Nat.le_refl _)
  rw [List.take_length] at e1
  unfold choE
  rw [QbJ,e1,List.length_take]
  omega
theorem QsI {t:Topo} {l:List Int} {n most:Int} (ht:TopoOk t) (hl:Qbj t l) (hn:1≤n) (hll:l.length≤100000):OR 267 [Qcw t,.d (.sl (intE l)),.d (.n .i64 n),.d (.n .i64 most)] (QdB t l n most):=by
 have h:=Qtx (most:=most) ht hl hn hll
 unfold QdB
 split
 ·rename_i hneg;rw [if_pos hneg] at h;exact h
 ·rename_i hneg
  rw [if_neg hneg] at h
  have hok:=Qk5 (t:=t) (l:=l) (n:=n) (most:=most) t.parents.length
  rw [show swU t l n most t.parents.length=swI t l n most from rfl] at hok
  have hcn:=hok (by omega)
  unfold cntU at hcn
  rw [show ((swI t l n most).toNat:Int)=swI t l n most by omega] at hcn
  rw [←Qox ht (QdJ ht (Qdj hl)) hcn (by omega)]
  exact h
end Go.Proofs.YtelbahebpmkfjaaGreat
