/-
  The library's sort by a function, at jobs: the order of the queue.
-/
import Derived.Test.YtelbahebpmkfjaaGreatKB14
import Derived.Test.YtelbahebpmkfjaaGreatKB13
import Derived.Test.YtelbahebpmkfjaaGreatKB18
import Derived.Test.YtelbahebpmkfjaaGreatKB15
import Derived.Test.YtelbahebpmkfjaaGreatKB7
import Derived.Test.YtelbahebpmkfjaaGreatKB21
import Derived.Test.YtelbahebpmkfjaaGreatKGlA
set_option maxRecDepth 100000
set_option maxHeartbeats 16000000
namespace Go.Proofs.YtelbahebpmkfjaaGreat
open Go Go.RowKit Go.Sort Go.Shelf

def cfJ (x y:Job):Int:=if x.prio≠y.prio then y.prio - x.prio else x.id - y.id
@[reducible] def jobV (j:Job):List Value:=[.int .i64 j.id,.int .i64 j.prio,.int .i64 j.nodes,.int .i64 j.need.a,.int .i64 j.need.b,.int .i64 j.need.c,.int .i64 j.lic.a,.int .i64 j.lic.b,.int .i64 j.lic.c,.int .i64 j.wall,.int .i64 j.level]
theorem Qk7 {x y:Job} (W:World) (hx:(1≤x.id∧x.id≤999)∧0≤x.prio∧x.prio≤999) (hy:(1≤y.id∧y.id≤999)∧0≤y.prio∧y.prio≤999) :
  Calls Tryz.prog 307 #[.agg (jobV x).toArray,.agg (jobV y).toArray] W fun e w'=>e=.returned (.int .i64 (cfJ x y))∧∃q os',w'=grow (W.drewN q) os':=by
 obtain ⟨⟨x1,x2⟩,x3,x4⟩:=hx
 obtain ⟨⟨y1,y2⟩,y3,y4⟩:=hy
 unfold cfJ
 by_cases hp:x.prio=y.prio
 ·rw [if_neg (fun h=>h hp)]
  go_enter Tryz.func307,Tryz.ntmps307
  go_wp2
  go_ret
  exact ⟨rfl,0,_,by rw [alloc_eq_grow,alloc_eq_grow,grow_grow];rfl⟩
 ·rw [if_pos hp]
  go_enter Tryz.func307,Tryz.ntmps307
  go_wp2
  go_ret
  exact ⟨rfl,0,_,by rw [alloc_eq_grow,alloc_eq_grow,grow_grow];rfl⟩
theorem Qiq {α β:Type} {enc:α→List β} {k:Nat} (hk:∀x,(enc x).length=k) (hk0:0<k):∀(d:List α) (t:Nat),(d.flatMap enc)[t]?=(d[t / k]?).bind fun x=>(enc x)[t % k]?
 | [],t=>by simp
 | x::d,t=>by
  rw [List.flatMap_cons]
  by_cases h:t<k
  ·rw [List.getElem?_append_left (by rw [hk];exact h),Nat.div_eq_of_lt h,Nat.mod_eq_of_lt h]
   rfl
  ·rw [List.getElem?_append_right (by rw [hk];omega),hk,Qiq hk hk0 d (t - k)]
   have e1:t / k=(t - k) / k+1:=by rw [Nat.div_eq_sub_div hk0 (by omega)]
   have e2:t % k=(t - k) % k:=Nat.mod_eq_sub_mod (by omega)
   rw [e1,e2]
   rfl
theorem QfA {α β:Type} {enc:α→List β} {k:Nat} (hk:∀x,(enc x).length=k):∀(d:List α),(d.flatMap enc).length=d.length * k
 | []=>by simp
 | x::d=>by rw [List.flatMap_cons,List.length_append,hk,QfA hk d,List.length_cons,Nat.add_mul];omega
theorem Qpr {α:Type} [Inhabited α] {enc:α→List Value} {k:Nat} (hk:∀x,(enc x).length=k) (hk0:0<k) (d:List α):flatK enc k d.toArray=(d.flatMap enc).toArray:=by
 apply Array.ext'
 refine List.ext_getElem? fun t=>?_
 have hg:=Qiq hk hk0 d t
 have hl:=QfA hk d
 by_cases h:t<d.length * k
 ·have h1:t / k<d.length:=Nat.div_lt_of_lt_mul (by rw [Nat.mul_comm];exact h)
  have h2:t % k<(enc d[t / k]).length:=by rw [hk];exact Nat.mod_lt _ hk0
  rw [List.toList_toArray,hg,List.getElem?_eq_getElem h1,Option.bind_some,List.getElem?_eq_getElem h2]
  simp only [flatK,Array.toList_map,List.getElem?_map,Array.getElem?_toList,List.size_toArray]
  rw [Array.getElem?_eq_getElem (by simpa using h)]
  simp [h1,h2]
 ·rw [List.getElem?_eq_none (show (flatK enc k d.toArray).toList.length≤t by rw [Array.length_toList,size_flatK];simpa using Nat.le_of_not_lt h),List.toList_toArray,List.getElem?_eq_none (by omega)]
theorem Qlw {w:World}:∀{xs:List Int} {us:List Value} {F:List Nat},repL w (xs.map (D.n .i64)) us F→us=xs.map (Value.int .i64)
 | [],_,_,h=>h.1
 | x::xs,us,F,h=>by
  obtain ⟨u,us',F1,F2,rfl,_,h1,h2⟩:=h
  obtain ⟨rfl,_⟩:=h1
  rw [Qlw h2]
  rfl
theorem Qjw (w:World):∀(xs:List Int),repL w (xs.map (D.n .i64)) (xs.map (Value.int .i64)) []
 | []=>⟨rfl,rfl⟩
 | _::xs=>⟨_,_,[],[],rfl,rfl,⟨rfl,rfl⟩,Qjw w xs⟩
def jobI (j:Job):List Int:=[j.id,j.prio,j.nodes,j.need.a,j.need.b,j.need.c,j.lic.a,j.lic.b,j.lic.c,j.wall,j.level]
theorem QnA {w:World}:∀{l:List Job} {us:List Value} {F:List Nat},repE w (jobE l) us F→us=l.flatMap jobV
 | [],_,_,h=>h.1
 | x::l,us,F,h=>by
  obtain ⟨u1,u2,F1,F2,rfl,_,h1,h2⟩:=h
  rw [QnA h2,show u1=jobV x from Qlw (xs:=jobI x) h1]
  rfl
theorem Qlp (w:World):∀(l:List Job),repE w (jobE l) (l.flatMap jobV) []
 | []=>⟨rfl,rfl⟩
 | x::l=>⟨jobV x,l.flatMap jobV,[],[],rfl,rfl,Qjw w (jobI x),Qlp w l⟩
theorem Qi1 {w:World} {g n:Nat} {cur:Array Value} {e:TypeId} {vs:List Value} (hb:w.heap[g]?=some (.cells cur e (0,0))) (hn:n=vs.length) (ht:cur.toList.take n=vs):Holds id w g 0 vs.toArray:=by
 intro j hj
 have hj':j<vs.length:=by simpa using hj
 refine ⟨?_,by simp [World.frozen?,hb]⟩
 have h1:(cur.toList.take n)[j]?=vs[j]?:=by rw [ht]
 rw [List.getElem?_take_of_lt (by omega)] at h1
 simp only [World.cell?,hb,Nat.zero_add]
 simp only [Option.isSome_none,Bool.false_eq_true,if_false]
 rw [←Array.getElem?_toList,h1]
 simp [hj']
theorem Qmk {w:World} {g n:Nat} {os:Array Obj} {cur:Array Value} {e:TypeId} {fr:Nat×Nat} (d:Array Value) (hb:w.heap[g]?=some (.cells cur e fr)) :
  (grow (putRow id (Sort.ahead w n) g 0 d) os).heap[g]?=some (.cells (putCells id 0 d cur) e fr):=by
 have hg:g<w.heap.size:=(Array.getElem?_eq_some_iff.1 hb).1
 rw [heap_grow_old _ _ (by simpa using hg)]
 simp [putRow,mapBlock,Sort.ahead,Array.getElem?_modify,hb,onCells]
theorem Qii {w:World} {g n:Nat} {os:Array Obj} (d:Array Value):w.grownBy (grow (putRow id (Sort.ahead w n) g 0 d) os) (some g):=by
 refine ⟨rfl,rfl,rfl,by simp,fun k hk hne=>?_⟩
 rw [heap_grow_old _ _ (by simpa using hk)]
 have:g≠k:=fun e=>hne (by rw [e])
 simp [putRow,mapBlock,Sort.ahead,Array.getElem?_modify,this]
theorem Qjd (cur:Array Value) (ts:List Value) (h:ts.length≤cur.size):(putCells id 0 ts.toArray cur).toList.take ts.length=ts:=by
 apply List.ext_getElem?
 intro j
 by_cases hj:j<ts.length
 ·rw [List.getElem?_take_of_lt hj,Array.getElem?_toList]
  simp [putCells,hj,show j<cur.size by omega]
 ·rw [List.getElem?_take_eq_none (by omega),List.getElem?_eq_none (by omega)]
theorem Qfs (x y:Job):cfJ x y<0↔y.prio<x.prio∨x.prio=y.prio∧x.id<y.id:=by
 unfold cfJ
 split <;> omega
theorem Qwo {α:Type} (f:α→Job):SWO (ltOf fun x y:α=>cfJ (f x) (f y)) where
 irrefl x:=decide_eq_false fun h=>by have:=(Qfs _ _).1 h;omega
 trans x y z h1 h2:=decide_eq_true ((Qfs _ _).2 (by
  have h1:=(Qfs _ _).1 (of_decide_eq_true h1)
  have h2:=(Qfs _ _).1 (of_decide_eq_true h2)
  omega))
 ntrans x y z h1 h2:=decide_eq_false fun h=>by
  have h:=(Qfs _ _).1 h
  have h1:¬_:=fun e=>of_decide_eq_false h1 ((Qfs _ _).2 e)
  have h2:¬_:=fun e=>of_decide_eq_false h2 ((Qfs _ _).2 e)
  omega
def ordJ (l:List Job):List Job:=l.mergeSort fun x y=>!decide (cfJ y x<0)
theorem Qb3 (l:List Job):(ordJ l).length=l.length:=List.length_mergeSort l
theorem Qnq {l:List Job} {x:Job}:x∈ordJ l↔x∈l:=(List.mergeSort_perm l _).mem_iff
theorem Qvd {l:List Job} {dd:Bool} (hl:∀x∈l,Qau x=true) (hd:∀x∈l,∀y∈l,x.id=y.id→x=y) (hll:l.length≤1000000) :
  MCalls Tryz.prog 306 [.row 1000000,.clo 307 []] [(1000000,.row 78 (jobE l) dd)] (fun _:Unit=>True) (fun _=>[]) (fun _=>[(1000000,.row 78 (jobE (ordJ l)) dd)]) (fun _=>[]):=by
 refine QiW (z:=11) ti78.sized (QaG fun _=>rfl) (QaG fun _=>rfl) (Qby (f:=jobD) (z:=11) (fun _=>rfl) (Qb3 l)) (fun us w'=>Go.MuLone.run_callFunc_enter Tryz.func306 rfl rfl us w') ?_
 intro w v us us2 en S ho hr hsh hS
 have hus:=QnA hr
 subst hus
 have hjl:(jobE l).length=l.length:=List.length_map _
 rw [hjl] at ho ⊢
 obtain ⟨fv,us3,rfl,hf,h3⟩:=hsh
 have h3':us3=[]:=h3
 subst h3'
 obtain ⟨cbs,rfl,hcb⟩:=hf
 have hcb':cbs=[]:=hcb
 subst hcb'
 rcases l with _|⟨x0,l'⟩
 ·have e0:ordJ []=[]:=List.eq_nil_of_length_eq_zero (Qb3 [])
  rw [e0]
  obtain ⟨p,cap,rfl⟩:∃p cap,v=.slice p 0 cap:=by
   rcases ho.2 with ⟨hv,_⟩|⟨g,cap,cur,hv,_⟩
   ·exact ⟨none,0,hv⟩
   ·exact ⟨_,cap,hv⟩
  have hcon:=AnyF.slices_SortFunc_none Tryz.sortJ p cap (.func (.func 307) #[] #[]) w
  change Calls Tryz.prog 306 _ _ _ at hcon
  refine hcon.mono fun e w' ⟨he,hw⟩=>?_
  subst hw
  exact ⟨he,Qjm _ _,[],ho,rfl,rfl⟩
 rcases ho.2 with ⟨hv,hn⟩|⟨g,cap,cur,hv,hbg,hg,hnc,hcm,hcs,htake⟩
 ·simp at hn
 subst hv
 have hgl:=(Array.getElem?_eq_some_iff.1 hg).1
 haveI:Inhabited { x:Job // x∈x0::l' }:=⟨⟨x0,List.mem_cons_self⟩⟩
 have hat:(x0::l').attach.map Subtype.val=x0::l':=List.attach_map_subtype_val _
 generalize (x0::l').attach=d at hat
 have hdl:d.toArray.size=(x0::l').length:=by have h:=congrArg List.length hat;rw [List.length_map] at h;rw [List.size_toArray];exact h
 have hfl:∀q:List { x:Job // x∈x0::l' },flatK (fun x:{ x:Job // x∈x0::l' }=>jobV x.1) 11 q.toArray=((q.map Subtype.val).flatMap jobV).toArray:=fun q=>by
  rw [Qpr (enc:=fun x:{ x:Job // x∈x0::l' }=>jobV x.1) (k:=11) (fun _=>rfl) (by omega),List.flatMap_map]
 have hvl:∀q:List Job,(q.flatMap jobV).length=q.length * 11:=fun q=>QfA (enc:=jobV) (k:=11) (fun _=>rfl) q
 have hH:HoldsK (fun x:{ x:Job // x∈x0::l' }=>jobV x.1) 11 w g 0 d.toArray:=by
  unfold HoldsK
  rw [hfl,hat]
  exact Qi1 hg (hvl _).symm htake
 have hin:∀x:{ x:Job // x∈x0::l' },(1≤x.1.id∧x.1.id≤999)∧0≤x.1.prio∧x.1.prio≤999:=fun x=>by
  have h:=hl x.1 x.2
  simp only [Qau,Bool.and_eq_true,QcM] at h
  exact ⟨h.1.1.1.1.1.1,h.1.1.1.1.1.2⟩
 have hcmp:CmpLays Tryz.prog 307 #[] (fun x:{ x:Job // x∈x0::l' }=>jobV x.1) 11 (fun x y=>cfJ x.1 y.1) g 0 d.toArray.size w:=
  fun _ _ _ _ x y=>Qk7 _ (hin x) (hin y)
 have hcon:=AnyQ.slices_SortFunc_total Tryz.sortJ 11 Tryz.isAgg78 Tryz.sizeOf78 (fun x:{ x:Job // x∈x0::l' }=>jobV x.1) (fun _=>rfl) (fun x v hv=>by simp only [List.mem_cons,List.not_mem_nil,or_false] at hv;rcases hv with rfl|rfl|rfl|rfl|rfl|rfl|rfl|rfl|rfl|rfl|rfl <;> rfl) (fun x y=>cfJ x.1 y.1) (Qwo _) 307 #[] g 0 cap d.toArray w
  (fun args w'=>Go.MuLone.run_callFunc_enter Tryz.func307 rfl rfl args w') hcmp hH hgl (by rw [hdl];omega)
  (fun x y h1 h2=>Subtype.ext (hd _ x.2 _ y.2 (by
   have h1:¬_:=fun e=>of_decide_eq_false h1 ((Qfs _ _).2 e)
   have h2:¬_:=fun e=>of_decide_eq_false h2 ((Qfs _ _).2 e)
   omega)))
 rw [hdl] at hcon
 change Calls Tryz.prog 306 _ _ _ at hcon
 have hsv:(d.mergeSort fun x y=>!(ltOf fun x y:{ x:Job // x∈x0::l' }=>cfJ x.1 y.1) y x).map Subtype.val=ordJ (x0::l'):=by
  refine Eq.trans (List.map_mergeSort (s:=fun x y=>!decide (cfJ y x<0)) fun a _ b _=>rfl) ?_
  rw [hat]
  rfl
 refine hcon.mono fun e w' ⟨he,n,os,hw⟩=>?_
 have hw2:w'=grow (putRow id (Sort.ahead w n) g 0 ((ordJ (x0::l')).flatMap jobV).toArray) os:=by
  rw [hw]
  unfold sortWorldK putRowK
  rw [hfl]
  exact congrArg (fun q:List Job=>grow (putRow id (Sort.ahead w n) g 0 (q.flatMap jobV).toArray) os) hsv
 subst hw2
 have hol:=Qb3 (x0::l')
 have hql:=hvl (ordJ (x0::l'))
 refine ⟨he,Qii _,(ordJ (x0::l')).flatMap jobV,⟨by rw [hql,hol],.inr ⟨g,cap,_,rfl,hbg,Qmk _ hg,hnc,hcm,by simpa [putCells] using hcs,?_⟩⟩,Qlp _ _⟩
 rw [show (x0::l').length * 11=((ordJ (x0::l')).flatMap jobV).length by rw [hql,hol]]
 refine Qjd _ _ ?_
 rw [hql,hol,hcs]
 exact Nat.mul_le_mul_right 11 hnc
end Go.Proofs.YtelbahebpmkfjaaGreat
namespace Go.Proofs.YtelbahebpmkfjaaGreat
open Go Go.RowKit Go.Sort

theorem Qf2 {a b:Job}:befB a b=true↔b.prio<a.prio∨a.prio=b.prio∧a.id<b.id:=by simp [befB]
theorem QmQ {a b:Job}:decide (cfJ a b<0)=befB a b:=by
 rw [Bool.eq_iff_iff,decide_eq_true_eq,Qfs,Qf2]
def insJ (j:Job):List Job→List Job
 | []=>[j]
 | x::l=>if befB j x=true then j::x::l else x::insJ j l
def insS (j:Job) (q:List Job×Bool) (x:Job):List Job×Bool:=if q.2=false∧befB j x=true then (q.1++[j]++[x],true) else (q.1++[x],q.2)
def QfJ (j:Job) (l:List Job):List Job×Bool:=l.foldl (insS j) ([],false)
theorem Qph {j:Job} {l:List Job} {i:Nat} (h:i<l.length):QfJ j (l.take (i+1))=insS j (QfJ j (l.take i)) (nth l i):=by
 rw [Qas h,QfJ,List.foldl_append]
 rfl
theorem QhO {j:Job}:∀(l:List Job) (a:List Job),(let q:=l.foldl (insS j) (a,false);if q.2=true then q.1 else q.1++[j])=a++insJ j l∧(l.foldl (insS j) (a,true))=(a++l,true)
 | [],a=>by simp [insJ]
 | x::l,a=>by
  obtain ⟨h1,_⟩:=QhO (j:=j) l (a++[x])
  have h2:=(QhO (j:=j) l (a++[j]++[x])).2
  have h3:=(QhO (j:=j) l (a++[x])).2
  constructor
  ·simp only [List.foldl_cons,insS,insJ]
   by_cases hn:befB j x=true
   ·simp only [hn,and_self,if_true]
    rw [h2]
    simp
   ·simp only [hn]
    simpa using h1
  ·simp only [List.foldl_cons,insS,Bool.true_eq_false,false_and,if_false]
   rw [h3]
   simp
theorem Qt6 {j:Job} {l:List Job}:(if (QfJ j l).2=true then (QfJ j l).1 else (QfJ j l).1++[j])=insJ j l:=by
 have:=(QhO (j:=j) l []).1
 rw [List.nil_append] at this
 exact this
theorem Qt3 (j:Job) (q:List Job×Bool) (x:Job):(insS j q x).1.length+(if (insS j q x).2=true then 0 else 1)=q.1.length+(if q.2=true then 0 else 1)+1:=by
 unfold insS
 split
 ·rename_i h
  rw [h.1];simp
 ·simp;split <;> omega
theorem Qrs (j:Job):∀(l:List Job),(QfJ j l).1.length≤l.length+1:=by
 intro l
 have key:∀(l:List Job) (q:List Job×Bool),(l.foldl (insS j) q).1.length+(if (l.foldl (insS j) q).2=true then 0 else 1)=q.1.length+(if q.2=true then 0 else 1)+l.length:=by
  intro l
  induction l with
  | nil=>intro q;rfl
  | cons x l ih=>intro q;rw [List.foldl_cons,ih,Qt3,List.length_cons];omega
 have:=key l ([],false)
 simp at this
 unfold QfJ
 omega
theorem Qir (j:Job):∀(l:List Job),(insJ j l).Perm (j::l)
 | []=>List.Perm.refl _
 | x::l=>by
  unfold insJ
  split
  ·exact List.Perm.refl _
  ·exact ((Qir j l).cons x).trans (List.Perm.swap j x l)
def srtd (l:List Job):Prop:=l.Pairwise fun a b=>befB b a=false
theorem QrV {a b c:Job} (h1:befB b a=false) (h2:befB c b=false):befB c a=false:=by
 rw [←Bool.not_eq_true,Qf2] at *
 omega
theorem Qna {a b:Job} (h1:befB a b=true):befB b a=false:=by
 rw [←Bool.not_eq_true,Qf2]
 rw [Qf2] at h1
 omega
theorem QoN (j:Job):∀(l:List Job),srtd l→srtd (insJ j l)
 | [],_=>by simp [insJ,srtd]
 | x::l,h=>by
  unfold insJ
  have h':=List.pairwise_cons.1 h
  split
  ·rename_i hn
   refine List.pairwise_cons.2 ⟨fun y hy=>?_,h⟩
   rcases List.mem_cons.1 hy with rfl|hy
   ·exact Qna hn
   ·exact QrV (Qna hn) (h'.1 y hy)
  ·rename_i hn
   refine List.pairwise_cons.2 ⟨fun y hy=>?_,QoN j l h'.2⟩
   rcases List.mem_cons.1 ((Qir j l).mem_iff.1 hy) with rfl|hy
   ·simpa using hn
   ·exact h'.1 y hy
def insL (l:List Job):List Job:=l.foldl (fun o x=>insJ x o) []
theorem QrS {l:List Job} {i:Nat} (h:i<l.length):insL (l.take (i+1))=insJ (nth l i) (insL (l.take i)):=by
 rw [Qas h,insL,List.foldl_append]
 rfl
theorem Qmn:∀(q o:List Job),srtd o→srtd (q.foldl (fun o x=>insJ x o) o)∧(q.foldl (fun o x=>insJ x o) o).Perm (o++q)
 | [],o,h=>⟨h,by rw [List.append_nil];exact List.Perm.refl _⟩
 | x::q,o,h=>by
  obtain ⟨h1,h2⟩:=Qmn q (insJ x o) (QoN x o h)
  refine ⟨h1,h2.trans ?_⟩
  exact (((Qir x o).append_right q).trans (List.perm_middle (l₁:=o) (l₂:=q) (a:=x)).symm)
theorem Qf1 (l:List Job):(insL l).Perm l:=(Qmn l [] List.Pairwise.nil).2
theorem Qot (l:List Job):(insL l).length=l.length:=(Qf1 l).length_eq
def uniJ (l:List Job):Prop:=∀x∈l,∀y∈l,x.id=y.id→x=y
theorem QueueP.uni {l:List Job} (h:QueueP l):uniJ l:=fun x hx y hy e=>by
 obtain ⟨i,hi,rfl⟩:=QbB hx
 obtain ⟨k,hk,rfl⟩:=QbB hy
 rcases Nat.lt_trichotomy i k with h1|h1|h1
 ·exact absurd e (h.diff k hk i h1)
 ·rw [h1]
 ·exact absurd e.symm (h.diff i hi k h1)
theorem Qtq (l:List Job):srtd (ordJ l):=by
 have h:=List.pairwise_mergeSort (le:=fun x y=>!decide (cfJ y x<0)) (fun a b c h1 h2=>?_) (fun a b=>?_) l
 ·refine h.imp fun {a b} hab=>?_
  rw [QmQ] at hab
  simpa using hab
 ·simp only [QmQ,Bool.not_eq_true'] at h1 h2 ⊢
  exact QrV h1 h2
 ·simp only [QmQ,Bool.or_eq_true,Bool.not_eq_true']
  cases hb:befB b a with
  | false=>exact .inl rfl
  | true=>exact .inr (Qna hb)
theorem Quv {l:List Job} (h:uniJ l):ordJ l=insL l:=by
 refine List.Perm.eq_of_pairwise (le:=fun a b=>befB b a=false) (fun a b ha hb h1 h2=>h a (Qnq.1 ha) b ((Qf1 l).mem_iff.1 hb) ?_) (Qtq l) (Qmn l [] List.Pairwise.nil).1 ((List.mergeSort_perm l _).trans (Qf1 l).symm)
 rw [←Bool.not_eq_true,Qf2] at h1 h2
 omega
def Qg3 (l:List Job) (id:Int):Option Job:=l.find? fun j=>j.id==id
theorem Qno {l:List Job} {id:Int} {i:Nat} (hi:i<l.length) (h:(nth l i).id=id) (hp:∀j,j<i→(nth l j).id≠id):Qg3 l id=some (nth l i):=by
 unfold Qg3
 rw [List.find?_eq_some_iff_getElem]
 rw [Qa8 hi] at h ⊢
 refine ⟨beq_iff_eq.2 h,i,hi,rfl,fun j hj=>?_⟩
 have:=hp j hj
 rw [Qa8 (by omega)] at this
 simpa using this
theorem Qt4 {l:List Job} {id:Int} (hp:∀j,j<l.length→(nth l j).id≠id):Qg3 l id=none:=by
 unfold Qg3
 rw [List.find?_eq_none]
 intro x hx
 obtain ⟨j,hj,rfl⟩:=QbB hx
 simpa using hp j hj
def outJ (l:List Job) (id:Int):List Job:=l.filter fun j=>!(j.id==id)
theorem Qfe:∀{l:List Job} {i:Nat} (_:(l.map Job.id).Nodup) (_:i<l.length),l.eraseIdx i=outJ l (nth l i).id
 | [],i,_,hi=>absurd hi (Nat.not_lt_zero _)
 | x::l,0,h,_=>by
  rw [List.map_cons,List.nodup_cons] at h
  have e:nth (x::l) 0=x:=rfl
  rw [e,List.eraseIdx_cons_zero,outJ,List.filter_cons_of_neg (by simp),eq_comm,List.filter_eq_self]
  intro y hy
  have:y.id≠x.id:=fun e=>h.1 (by rw [←e];exact List.mem_map.2 ⟨y,hy,rfl⟩)
  simpa using this
 | x::l,i+1,h,hi=>by
  rw [List.map_cons,List.nodup_cons] at h
  have hi':i<l.length:=by simpa using hi
  have e:nth (x::l) (i+1)=nth l i:=by simp [nth]
  have:x.id≠(nth l i).id:=fun e=>h.1 (by rw [e];exact List.mem_map.2 ⟨_,QaO hi',rfl⟩)
  rw [e,List.eraseIdx_cons_succ,Qfe h.2 hi',outJ,outJ,List.filter_cons_of_pos (by simpa using this)]
theorem QueueP.nodup {l:List Job} (h:QueueP l):(l.map Job.id).Nodup:=by
 rw [List.Nodup,List.pairwise_map,List.pairwise_iff_getElem]
 intro i k hi hk hik
 have:=h.diff k hk i hik
 rwa [Qa8 hi,Qa8 hk] at this
end Go.Proofs.YtelbahebpmkfjaaGreat
namespace Go.Proofs.YtelbahebpmkfjaaGreat
open Go Go.RowKit

structure HeldS where
 id:Int
 at':Int
 nodes:List Int
instance:Inhabited HeldS:=⟨⟨0,0,[]⟩⟩
def QxC (h:HeldS):List D:=[.n .i64 h.id,.n .i64 h.at',.sl (intE h.nodes)]
def Qel (l:List HeldS):List (List D):=l.map fun h=>[.n .i64 h.id,.n .i64 h.at',.sl (intE h.nodes)]
theorem Qa3 (l:List HeldS):(Qel l).length=l.length:=by simp [Qel]
theorem Qfh (l:List HeldS) (h:HeldS):Qel l++[[.n .i64 h.id,.n .i64 h.at',.sl (intE h.nodes)]]=Qel (l++[h]):=by simp [Qel]
noncomputable def Qpn (now depth:Int) (q:Room×List HeldS×List HeldS) (j:Job):Room×List HeldS×List HeldS:=
 match earO q.1 j now with
 | none=>q
 | some x=>if now<x.1∧depth≤q.2.2.length then q else match resO q.1 j x.1 (x.1+j.wall) x.2 with
  | none=>q
  | some r'=>if x.1=now then (r',q.2.1++[⟨j.id,x.1,x.2⟩],q.2.2) else (r',q.2.1,q.2.2++[⟨j.id,x.1,x.2⟩])
noncomputable def Qdv (r:Room) (now depth:Int) (l:List Job):Room×List HeldS×List HeldS:=l.foldl (Qpn now depth) (r,[],[])
theorem QgF {r:Room} {now depth:Int} {l:List Job} {i:Nat} (h:i<l.length):Qdv r now depth (l.take (i+1))=Qpn now depth (Qdv r now depth (l.take i)) (nth l i):=by
 rw [Qas h,Qdv,List.foldl_append]
 rfl
structure PlanI (r:Room) (now:Int) (js:List Job) (q:Room×List HeldS×List HeldS):Prop where
 room:RoomOk q.1
 topo:q.1.topo=r.topo∧q.1.up=r.up
 len:q.2.1.length+q.2.2.length≤js.length
 sub:(q.2.1.map HeldS.id).Sublist (js.map Job.id)
 st:∀h∈q.2.1,h.at'=now∧1≤h.nodes.length∧h.nodes.length≤24
 lt:∀h∈q.2.2,1≤h.nodes.length∧h.nodes.length≤24
theorem Qpt {r:Room} {now depth:Int} {js:List Job} {q:Room×List HeldS×List HeldS} {j:Job} (h:PlanI r now js q):PlanI r now (js++[j]) (Qpn now depth q j):=by
 have same:PlanI r now (js++[j]) q:=⟨h.room,h.topo,by have:=h.len;rw [List.length_append];omega,by rw [List.map_append];exact h.sub.trans (List.sublist_append_left _ _),h.st,h.lt⟩
 unfold Qpn
 split
 ·exact same
 ·rename_i x _
  split
  ·exact same
  ·split
   ·exact same
   ·rename_i r' hq
    obtain ⟨k1,k2,k3,k4,k5⟩:=Qnf hq
    obtain ⟨k6,_⟩:=Qcg k5
    have hn:1≤x.2.length∧x.2.length≤24:=by have:=k4.num;omega
    have ht:r'.topo=r.topo∧r'.up=r.up:=⟨k2.trans h.topo.1,k3.trans h.topo.2⟩
    have hl:=h.len
    split
    ·rename_i hx
     refine ⟨k1,ht,by simp;omega,?_,fun y hy=>?_,h.lt⟩
     ·rw [List.map_append,List.map_append]
      exact h.sub.append (List.Sublist.refl _)
     ·rcases List.mem_append.1 hy with hy|hy
      ·exact h.st y hy
      ·obtain rfl:=List.mem_singleton.1 hy
       exact ⟨hx,hn⟩
    ·refine ⟨k1,ht,by simp;omega,by rw [List.map_append];exact h.sub.trans (List.sublist_append_left _ _),h.st,fun y hy=>?_⟩
     rcases List.mem_append.1 hy with hy|hy
     ·exact h.lt y hy
     ·obtain rfl:=List.mem_singleton.1 hy
      exact hn
theorem Qtr {r:Room} {now depth:Int} {l:List Job} (h:RoomOk r):∀(i:Nat),i≤l.length→PlanI r now (l.take i) (Qdv r now depth (l.take i))
 | 0,_=>⟨h,⟨rfl,rfl⟩,by simp [Qdv],by simp [Qdv],by simp [Qdv],by simp [Qdv]⟩
 | i+1,hi=>by
  rw [QgF (by omega),Qas (by omega)]
  exact Qpt (Qtr h i (by omega))
def runH (now:Int) (q:List Job×List Run) (h:HeldS):List Job×List Run:=(outJ q.1 h.id,q.2++[⟨(Qg3 q.1 h.id).getD default,now,h.nodes⟩])
def runF (now:Int) (qs:List Job) (rs:List Run) (hs:List HeldS):List Job×List Run:=hs.foldl (runH now) (qs,rs)
theorem Qda {now:Int} {qs:List Job} {rs:List Run} {hs:List HeldS} {i:Nat} (h:i<hs.length):runF now qs rs (hs.take (i+1))=runH now (runF now qs rs (hs.take i)) (nth hs i):=by
 rw [Qas h,runF,List.foldl_append]
 rfl
theorem Qtg {l:List Job} {id:Int} {x:Job}:x∈outJ l id↔x∈l∧x.id≠id:=by simp [outJ]
structure StrP (now:Int) (qs:List Job) (rs:List Run) (hs:List HeldS) (i:Nat):Prop where
 mem:∀x,x∈(runF now qs rs (hs.take i)).1↔x∈qs∧∀j,j<i→(nth hs j).id≠x.id
 sub:(runF now qs rs (hs.take i)).1.Sublist qs
 len:(runF now qs rs (hs.take i)).2.length=rs.length+i
 que:(runF now qs rs (hs.take i)).1.length+i≤qs.length
 new:∀y∈(runF now qs rs (hs.take i)).2,y∈rs∨∃h∈hs.take i,y.at'=now∧y.nodes=h.nodes∧y.job∈qs∧y.job.id=h.id
theorem QpG {l:List Job} {id:Int} {j:Job} (h:Qg3 l id=some j):j∈l∧j.id=id:=
 ⟨List.mem_of_find?_eq_some h,by simpa using List.find?_some h⟩
theorem Qrm {l:List Job} {id:Int} (h:id∈l.map Job.id):∃j,Qg3 l id=some j:=by
 obtain ⟨x,hx,e⟩:=List.mem_map.1 h
 cases hf:Qg3 l id with
 | some j=>exact ⟨j,rfl⟩
 | none=>
  have:=List.find?_eq_none.1 hf x hx
  simp [e] at this
theorem Qs0 {l:List Job} {id:Int} (h:id∈l.map Job.id):(outJ l id).length+1≤l.length:=by
 obtain ⟨x,hx,e⟩:=List.mem_map.1 h
 have:=List.length_filter_lt_length_iff_exists (p:=fun j:Job=>!(j.id==id)) (l:=l)
 have h2:=this.2 ⟨x,hx,by simp [e]⟩
 exact h2
theorem strP {now:Int} {qs:List Job} {rs:List Run} {hs:List HeldS} (hn:(hs.map HeldS.id).Nodup) (hsub:∀h∈hs,h.id∈qs.map Job.id):∀(i:Nat),i≤hs.length→StrP now qs rs hs i∧(i<hs.length→(nth hs i).id∈(runF now qs rs (hs.take i)).1.map Job.id)
 | 0,_=>⟨⟨by simp [runF],by simp [runF],by simp [runF],by simp [runF],by simp [runF]⟩,fun h=>by
  simp only [List.take_zero,runF,List.foldl_nil]
  exact hsub _ (QaO h)⟩
 | i+1,hi=>by
  obtain ⟨h,hh⟩:=strP (now:=now) (rs:=rs) hn hsub i (by omega)
  have hin:=hh (by omega)
  have hmem:∀x,x∈(runF now qs rs (hs.take (i+1))).1↔x∈qs∧∀j,j<i+1→(nth hs j).id≠x.id:=fun x=>by
   rw [Qda (by omega)]
   show x∈outJ _ _↔_
   rw [Qtg,h.mem]
   constructor
   ·rintro ⟨⟨h1,h2⟩,h3⟩
    refine ⟨h1,fun j hj=>?_⟩
    by_cases e:j=i
    ·subst e;exact fun e=>h3 e.symm
    ·exact h2 j (by omega)
   ·rintro ⟨h1,h2⟩
    exact ⟨⟨h1,fun j hj=>h2 j (by omega)⟩,fun e=>h2 i (by omega) e.symm⟩
  refine ⟨⟨hmem,?_,?_,?_,?_⟩,fun hi'=>?_⟩
  ·rw [Qda (by omega)]
   exact List.filter_sublist.trans h.sub
  ·rw [Qda (by omega)]
   have:=h.len
   simp only [runH,List.length_append,List.length_cons,List.length_nil]
   omega
  ·rw [Qda (by omega)]
   have:=Qs0 hin
   have:=h.que
   simp only [runH]
   omega
  ·rw [Qda (by omega)]
   intro y hy
   rcases List.mem_append.1 hy with hy|hy
   ·refine (h.new y hy).imp id fun ⟨x,hx,h2⟩=>⟨x,?_,h2⟩
    rw [Qas (by omega)]
    exact List.mem_append_left _ hx
   ·obtain rfl:=List.mem_singleton.1 hy
    obtain ⟨j,hj⟩:=Qrm hin
    obtain ⟨j1,j2⟩:=QpG hj
    refine .inr ⟨nth hs i,?_,rfl,rfl,?_,?_⟩
    ·rw [Qas (by omega)]
     simp
    ·simp only [hj,Option.getD_some]
     exact ((h.mem j).1 j1).1
    ·simp only [hj,Option.getD_some]
     exact j2
  ·obtain ⟨x,hx,e⟩:=List.mem_map.1 (hsub _ (QaO hi'))
   refine List.mem_map.2 ⟨x,(hmem x).2 ⟨hx,fun j hj e2=>?_⟩,e⟩
   have h1:(hs.map HeldS.id)[j]'(by simp;omega)=(hs.map HeldS.id)[i+1]'(by simpa using hi'):=by
    simp only [List.getElem_map]
    rw [←Qa8 (by omega),←Qa8 hi',e2,e]
   have:=(List.getElem_inj (h₀:=by simp;omega) (h₁:=by simpa using hi') hn).1 h1
   omega
noncomputable def QcO (s:State):List HeldS×List HeldS:=match Qbu s with
 | none=>([],[])
 | some r=>(Qdv r s.now s.depth (ordJ s.queue)).2
noncomputable def Qbq (s:State):State:={ s with queue:=(runF s.now s.queue s.runs (QcO s).1).1,runs:=(runF s.now s.queue s.runs (QcO s).1).2 }
theorem Qeb {s:State} {r:Room} (h:Qbu s=some r):QcO s=(Qdv r s.now s.depth (ordJ s.queue)).2:=by unfold QcO;rw [h]
theorem Qdx {s:State} {r:Room} (h:Qbu s=some r):RoomOk r:=by
 obtain ⟨h1,h2,h3,h4,h5⟩:=Qed h
 assumption
theorem QwL {s:State} {r:Room} (h:Qbu s=some r):PlanI r s.now (ordJ s.queue) (Qdv r s.now s.depth (ordJ s.queue)):=by
 have:=Qtr (now:=s.now) (depth:=s.depth) (l:=ordJ s.queue) (Qdx h) (ordJ s.queue).length (Nat.le_refl _)
 rwa [List.take_length] at this
end Go.Proofs.YtelbahebpmkfjaaGreat
namespace Go.Proofs.YtelbahebpmkfjaaGreat
open Go Go.RowKit
attribute [local irreducible] AWp Qat OpOk ACalls ChA QsOk MCalls NCalls EnC PY

theorem QueueP.ok {l:List Job} (h:QueueP l):∀x∈l,Qau x=true:=fun x hx=>by
 obtain ⟨i,hi,rfl⟩:=QbB hx
 exact h.jobs i hi
theorem QvS {l:List Job} (hq:QueueP l):DC Tryz.prog 249 [.d (.sl (jobE l))] [.d (.sl (jobE (ordJ l)))]:=by
 refine Qag tt Tryz.func249 rfl rfl rfl trivial (fun _ _=>⟨trivial,trivial⟩) (fun w0 Z O=>?_)
 have hl:=Qak l
 have hql:=hq.len
 have c1:=Qvd (l:=l) (dd:=true) hq.ok hq.uni (by omega)
 repeat' (first|refine zsr ?_|(refine zhm fun hb=>?_;try exact zab)|refine zg2 ?_ ?_|refine zop ?_|(refine km [4] (c1) rfl rfl (fun i hi=>?_);(try dsimp only at hi))|fail)
 show AWp _ _ _ _
 refine Qav 4 rfl ?_
 refine Qac ?_
 apply Qab
 exact zm () [] trivial zae zae zae
theorem QvJ {l:List Job} (hq:QueueP l):DC Tryz.prog 243 [.d (.sl (jobE l))] [.d (.sl (jobE (insL l)))]:=by
 refine Qag tt Tryz.func243 rfl rfl rfl trivial (fun _ _=>⟨trivial,trivial⟩) (fun w0 Z O=>?_)
 have hle:=Qak l
 have hql:=hq.len
 have c0:=Qh9 (l:=l) (by omega)
 rw [show Qb1 l=true from pB_t.2 hq] at c0
 repeat' (first|refine zst ?_|(refine zhm fun hb=>?_;try exact zab)|refine zg2 ?_ ?_|refine zln fun _=>?_|refine zop ?_|refine kc (c0) rfl rfl ?_|fail)
 refine Qav 10 rfl ?_
 refine Qae (fun (i:Nat)=>⟨53,[(3,.d (.sl (jobE (insL (l.take i))))),(15,.d (.sl (jobE l))),(16,.d (.n .i64 (l.length:Nat))),(17,.d (.n .i64 i))],[]⟩) (fun i=>i≤l.length) (fun i=>l.length - i) 0 (by exact Nat.zero_le _) ?_ ?_
 ·refine ⟨rfl,?_,?_,rfl⟩
  repeat'(first|apply And.intro|exact ze0|refine ze1 ?_|refine zei ?_ ?_|exact rfl|trivial)
  all_goals exact Stop.mk (by first|rfl|exact hle)
 intro i hi
 have hil:(insL (l.take i)).length=i:=by rw [Qot,List.length_take];omega
 by_cases hi':i<l.length
 ·have hst:=QrS hi'
  generalize insL (l.take i)=o at hil hst ⊢
  generalize hx:nth l i=x at hst
  have hol:=Qak o
  repeat' (first|refine zst ?_|(refine zhm fun hb=>?_;try exact zab)|refine zg2 ?_ ?_|refine zln fun _=>?_|refine zop ?_|fail)
  rw [hx]
  refine Qae (fun (k:Nat)=>⟨53,[(5,.ptr 5 0),(6,.row 21),(7,.d (.b (QfJ x (o.take k)).2)),(15,.d (.sl (jobE l))),(16,.d (.n .i64 (l.length:Nat))),(17,.d (.n .i64 i)),(22,.d (.sl (jobE o))),(23,.d (.n .i64 (o.length:Nat))),(24,.d (.n .i64 k))],[(5,.box 78 ((jobD x).map AV.d)),(21,.row 78 (jobE (QfJ x (o.take k)).1) true)]⟩) (fun k=>k≤o.length) (fun k=>o.length - k) 0 (by exact Nat.zero_le _) ?_ ?_
  ·refine ⟨rfl,?_,?_,rfl⟩
   repeat'(first|apply And.intro|exact ze0|refine ze1 ?_|refine zei ?_ ?_|exact rfl|trivial)
   all_goals exact Stop.mk (by first|rfl|exact hol)
  intro k hk
  have hrl:=Qrs x (o.take k)
  rw [QkG hk] at hrl
  have hrl2:=Qak (QfJ x (o.take k)).1
  by_cases hk':k<o.length
  ·have hst2:=Qph (j:=x) hk'
   unfold insS at hst2
   have c1:=QmS (a:=x) (b:=nth o k)
   cases hd:(QfJ x (o.take k)).2 with
   | true=>
    rw [hd,if_neg (by simp)] at hst2
    repeat' (first|refine zst ?_|(refine zhm fun hb=>?_;try exact zab)|refine zg2 ?_ ?_|refine zln fun _=>?_|refine zop ?_|fail)
    refine ⟨k+1,by omega,by omega,?_⟩
    refine ⟨rfl,?_,?_,rfl⟩
    repeat'(first|apply And.intro|exact ze0|refine ze1 ?_|refine zei ?_ ?_|exact rfl|trivial)
    all_goals exact Stop.mk (by first|rfl|(rw [hst2];exact Qb2 _ _)|rw [hst2])
   | false=>
    cases hb0:befB x (nth o k) with
    | true=>
     rw [hd,if_pos ⟨rfl,hb0⟩] at hst2
     rw [hb0] at c1
     have hl2:(jobE (QfJ x (o.take k)).1++[jobD x]).length=(QfJ x (o.take k)).1.length+1:=by simp [jobE]
     repeat' (first|refine zst ?_|(refine zhm fun hb=>?_;try exact zab)|refine zg2 ?_ ?_|refine zln fun _=>?_|refine zop ?_|refine kc (c1) rfl rfl ?_|fail)
     refine ⟨k+1,by omega,by omega,?_⟩
     refine ⟨rfl,?_,?_,rfl⟩
     repeat'(first|apply And.intro|exact ze0|refine ze1 ?_|refine zei ?_ ?_|exact rfl|trivial)
     all_goals exact Stop.mk (by first|rfl|(rw [hst2];simp [jobE];done)|rw [hst2])
    | false=>
     rw [hd,if_neg (fun h=>by rw [hb0] at h;cases h.2)] at hst2
     rw [hb0] at c1
     repeat' (first|refine zst ?_|(refine zhm fun hb=>?_;try exact zab)|refine zg2 ?_ ?_|refine zln fun _=>?_|refine zop ?_|refine kc (c1) rfl rfl ?_|fail)
     refine ⟨k+1,by omega,by omega,?_⟩
     refine ⟨rfl,?_,?_,rfl⟩
     repeat'(first|apply And.intro|exact ze0|refine ze1 ?_|refine zei ?_ ?_|exact rfl|trivial)
     all_goals exact Stop.mk (by first|rfl|(rw [hst2];exact Qb2 _ _)|rw [hst2])
  ·obtain rfl:k=o.length:=by omega
   rw [List.take_length] at *
   have he:=Qt6 (j:=x) (l:=o)
   cases hd:(QfJ x o).2 with
   | true=>
    rw [hd,if_pos rfl] at he
    repeat' (first|(refine Qaj 19 21 rfl ?_)|refine zst ?_|(refine zhm fun hb=>?_;try exact zab)|refine zg2 ?_ ?_|refine zln fun _=>?_|refine zop ?_|fail)
    refine ⟨i+1,by omega,by omega,?_⟩
    refine ⟨rfl,?_,?_,rfl⟩
    repeat'(first|apply And.intro|exact ze0|refine ze1 ?_|refine zei ?_ ?_|exact rfl|trivial)
    all_goals exact Stop.mk (by first|rfl|rw [hst,he])
   | false=>
    rw [hd,if_neg (by simp)] at he
    repeat' (first|(refine Qaj 19 21 rfl ?_)|refine zst ?_|(refine zhm fun hb=>?_;try exact zab)|refine zg2 ?_ ?_|refine zln fun _=>?_|refine zop ?_|fail)
    refine ⟨i+1,by omega,by omega,?_⟩
    refine ⟨rfl,?_,?_,rfl⟩
    repeat'(first|apply And.intro|exact ze0|refine ze1 ?_|refine zei ?_ ?_|exact rfl|trivial)
    all_goals exact Stop.mk (by first|rfl|(rw [hst,←he];exact Qb2 _ _))
 ·obtain rfl:i=l.length:=by omega
  rw [List.take_length] at *
  repeat' (first|refine zsr ?_|(refine zhm fun hb=>?_;try exact zab)|refine zg2 ?_ ?_|refine zln fun _=>?_|refine zop ?_|fail)
  show AWp _ _ _ _
  refine Qac ?_
  apply Qab
  exact zm () [] trivial zae zae zae
theorem QfT {l:List Job} {id:Int} (hl:l.length≤1000000000):ACalls Tryz.prog 185 [.d (.sl (jobE l)),.d (.n .i64 id)] [jobA ((Qg3 l id).getD default),.d (.b (Qg3 l id).isSome)] []:=by
 refine Qaa tt Tryz.func185 rfl rfl rfl (fun w0 Z=>?_)
 have hle:=Qak l
 repeat' (first|refine zst ?_|(refine zhm fun hb=>?_;try exact zab)|refine zg2 ?_ ?_|refine zln fun _=>?_|refine zop ?_|fail)
 refine Qae (fun (i:Nat)=>⟨21,[(1,.d (.n .i64 id)),(4,.ptr 4 0),(8,.d (.sl (jobE l))),(9,.d (.n .i64 (l.length:Nat))),(10,.d (.n .i64 i))],[(4,.box 78 ((jobD default).map AV.d))]⟩) (fun i=>i≤l.length∧∀j,j<i→(nth l j).id≠id) (fun i=>l.length - i) 0 (by exact ⟨Nat.zero_le _,fun j hj=>absurd hj (Nat.not_lt_zero _)⟩) ?_ ?_
 ·refine ⟨rfl,?_,?_,rfl⟩
  repeat'(first|apply And.intro|exact ze0|refine ze1 ?_|refine zei ?_ ?_|exact rfl|trivial)
  all_goals exact Stop.mk (by first|rfl|exact hle)
 rintro i ⟨hi,hp⟩
 by_cases hi':i<l.length
 ·repeat' (first|refine zst ?_|(refine zhm fun hb=>?_;try exact zab)|refine zg2 ?_ ?_|refine zln fun _=>?_|refine zop ?_|fail)
  ·rw [Qno hi' (by assumption) hp]
   exact zr [] zae zae
  ·refine ⟨i+1,⟨by omega,fun j hj=>?_⟩,by omega,?_⟩
   ·by_cases e:j=i
    ·subst e;assumption
    ·exact hp j (by omega)
   exact ⟨rfl,zae,zae,rfl⟩
 ·rw [Qt4 fun j hj=>hp j (by omega)]
  repeat' (first|refine zst ?_|(refine zhm fun hb=>?_;try exact zab)|refine zg2 ?_ ?_|refine zln fun _=>?_|refine zop ?_|fail)
  exact zr [] zae zae
theorem Qq6 {l:List Job} {id:Int} {i:Nat} (h:i<l.length):outJ (l.take (i+1)) id=if (nth l i).id=id then outJ (l.take i) id else outJ (l.take i) id++[nth l i]:=by
 rw [Qas h,outJ,List.filter_append]
 split
 ·rename_i e;simp [outJ,e]
 ·rename_i e;simp [outJ,e]
theorem Qvk (l:List Job) (id:Int):(outJ l id).length≤l.length:=List.length_filter_le _ _
theorem Qop {l:List Job} {id:Int} (hl:l.length≤1000000000):DC Tryz.prog 186 [.d (.sl (jobE l)),.d (.n .i64 id)] [.d (.sl (jobE (outJ l id)))]:=by
 refine Qag tt Tryz.func186 rfl rfl rfl trivial (fun _ _=>⟨trivial,trivial⟩) (fun w0 Z O=>?_)
 have hle:=Qak l
 repeat' (first|refine zst ?_|(refine zhm fun hb=>?_;try exact zab)|refine zg2 ?_ ?_|refine zln fun _=>?_|refine zop ?_|fail)
 refine Qae (fun (i:Nat)=>⟨25,[(1,.d (.n .i64 id)),(5,.row 8),(9,.d (.sl (jobE l))),(10,.d (.n .i64 (l.length:Nat))),(11,.d (.n .i64 i))],[(8,.row 78 (jobE (outJ (l.take i) id)) true)]⟩) (fun i=>i≤l.length) (fun i=>l.length - i) 0 (by exact Nat.zero_le _) ?_ ?_
 ·refine ⟨rfl,?_,?_,rfl⟩
  repeat'(first|apply And.intro|exact ze0|refine ze1 ?_|refine zei ?_ ?_|exact rfl|trivial)
  all_goals exact Stop.mk (by first|rfl|exact hle)
 intro i hi
 have hol:=Qvk (l.take i) id
 rw [QkG hi] at hol
 have hol2:=Qak (outJ (l.take i) id)
 by_cases hi':i<l.length
 ·have hst:=Qq6 (id:=id) hi'
  by_cases he:(nth l i).id=id
  ·rw [if_pos he] at hst
   repeat' (first|refine zst ?_|(refine zhm fun hb=>?_;try exact zab)|refine zg2 ?_ ?_|refine zln fun _=>?_|refine zop ?_|fail)
   refine ⟨i+1,by omega,by omega,?_⟩
   refine ⟨rfl,?_,?_,rfl⟩
   repeat'(first|apply And.intro|exact ze0|refine ze1 ?_|refine zei ?_ ?_|exact rfl|trivial)
   all_goals exact Stop.mk (by first|rfl|rw [hst])
  ·rw [if_neg he] at hst
   repeat' (first|refine zst ?_|(refine zhm fun hb=>?_;try exact zab)|refine zg2 ?_ ?_|refine zln fun _=>?_|refine zop ?_|fail)
   refine ⟨i+1,by omega,by omega,?_⟩
   refine ⟨rfl,?_,?_,rfl⟩
   repeat'(first|apply And.intro|exact ze0|refine ze1 ?_|refine zei ?_ ?_|exact rfl|trivial)
   all_goals exact Stop.mk (by first|rfl|(rw [hst];exact Qb2 _ _))
 ·obtain rfl:i=l.length:=by omega
  rw [List.take_length] at *
  repeat' (first|refine zsr ?_|(refine zhm fun hb=>?_;try exact zab)|refine zg2 ?_ ?_|refine zln fun _=>?_|refine zop ?_|fail)
  show AWp _ _ _ _
  refine Qav 8 rfl ?_
  refine Qac ?_
  apply Qab
  exact zm () [] trivial zae zae zae
theorem Qtt {id:Int} {k:Job}:ACalls Tryz.prog 261 [jobA k,.pd [.n .i64 id] 0] [.d (.b (k.id==id))] []:=by
 refine Qaa tt Tryz.func261 rfl rfl rfl (fun w0 Z=>?_)
 repeat' (first|refine zsc ?_|(refine Hb.mk (fun hb=>?_);(first|rw [decide_eq_true_eq] at hb|rw [decide_eq_false_iff_not] at hb|skip);(first|(exfalso;omega)|(exact absurd rfl hb)|skip))|refine zg2 ?_ ?_|refine zop ?_|fail)
 exact zr [] zae zae
theorem Qm2 {l:List Job} {id:Int} (hl:l.length≤1000000000):ACalls Tryz.prog 192 [.d (.sl (jobE l)),.d (.n .i64 id)] [.d (.n .i64 (idxF l fun j=>j.id==id))] []:=by
 refine Qaa tt Tryz.func192 rfl rfl rfl (fun w0 Z=>?_)
 repeat' (first|refine zst ?_|(refine zhm fun hb=>?_;try exact zab)|refine zg2 ?_ ?_|refine zop ?_|refine kc (QiM (l:=l) (p:=fun j=>j.id==id) (g:=261) (ds:=[.n .i64 id]) hl (fun j=>Qtt)) rfl rfl ?_|fail)
 exact zr [] zae zae
end Go.Proofs.YtelbahebpmkfjaaGreat
namespace Go.Proofs.YtelbahebpmkfjaaGreat
open Go Go.RowKit
attribute [local irreducible] AWp Qat OpOk ACalls ChA QsOk MCalls NCalls EnC PY

theorem Qwi {r:Room} {j:Job} {a b:Int} {l:List Int} (hr:RoomOk r) (hl:l.length≤1000000000):MCalls Tryz.prog 246 [QcC r,jobA j,.d (.n .i64 a),.d (.n .i64 b),.row 1000000,.clo 247 []] [(1000000,.row 3 (intE l) true)] (fun _:Unit=>True) (fun _=>QfB (resO r j a b l)) (fun _=>[(1000000,.row 3 (intE l) true)]) (fun _=>[]):=by
 refine Qag tt Tryz.func246 rfl rfl rfl ⟨.inl rfl,trivial⟩ (fun _ _=>⟨⟨⟨rfl,rfl,rfl⟩,trivial⟩,.inl rfl,trivial⟩) (fun w0 Z O=>?_)
 have hs:=hr.small
 have c1:=Qhx hr
 have c2:=QeC (j:=j)
 have c3:=QfM (j:=j) hr.topo hl
 cases h2:Qau j with
 | false=>
  rw [h2] at c2
  rw [QiC h2]
  repeat' (first|refine zsr ?_|(refine zhm fun hb=>?_;try exact zab)|refine zdr ?_|(apply zch;exact zcg)|refine HopS.mk fun w0 Z O=>?_|exact zhk|refine zg3 ?_ ?_|refine zln fun _=>?_|refine zop ?_|refine kc (c1) rfl rfl ?_|refine kc (c2) rfl rfl ?_|refine kq (c1) rfl rfl ?_|refine kq (c2) rfl rfl ?_|fail)
  show AWp _ _ _ _
  refine Qac ?_
  apply Qab
  exact zm () [] trivial zae zae zae
 | true=>
  rw [h2] at c2
  cases h3:QeS r.topo j l with
  | false=>
   rw [h3] at c3
   rw [Qip h3]
   repeat' (first|refine zsr ?_|(refine zhm fun hb=>?_;try exact zab)|refine zdr ?_|(apply zch;exact zcg)|refine HopS.mk fun w0 Z O=>?_|exact zhk|refine zg3 ?_ ?_|refine zln fun _=>?_|refine zop ?_|refine kc (c1) rfl rfl ?_|refine kc (c2) rfl rfl ?_|refine kc (c3) rfl rfl ?_|refine kq (c1) rfl rfl ?_|refine kq (c2) rfl rfl ?_|refine kq (c3) rfl rfl ?_|fail)
   show AWp _ _ _ _
   refine Qac ?_
   apply Qab
   exact zm () [] trivial zae zae zae
  | true=>
   rw [h3] at c3
   rw [Qr8 hr h2 h3]
   have hd:=pB_t.1 h3
   have hjn:1≤j.nodes:=by
    simp only [Qau,Bool.and_eq_true,QcM] at h2
    omega
   have hnum:=hd.num
   have hin0:=hd.nodes 0 (by omega)
   have hpn:=hr.num
   have hil:=Qad l
   repeat' (first|refine zst ?_|(refine zhm fun hb=>?_;try exact zab)|refine zdr ?_|(apply zch;exact zcg)|refine HopS.mk fun w0 Z O=>?_|exact zhk|refine zg3 ?_ ?_|refine zln fun _=>?_|refine zop ?_|refine kc (c1) rfl rfl ?_|refine kc (c2) rfl rfl ?_|refine kc (c3) rfl rfl ?_|(refine km [] (Qju hr (by omega)) rfl rfl (fun i hi=>?_);(try dsimp only at hi))|refine kq (c1) rfl rfl ?_|refine kq (c2) rfl rfl ?_|refine kq (c3) rfl rfl ?_|fail)
   refine Qae (fun (k:Nat×List (List Pt))=>⟨86,[(2,.d (.n .i64 a)),(3,.d (.n .i64 b)),(5,.clo 247 []),(7,.ptr 7 0),(12,.ptr 12 0),(14,.ptr 14 0),(40,.row 1000000),(41,.d (.n .i64 (l.length:Nat))),(42,.d (.n .i64 k.1))],[(1000000,.row 3 (intE l) true),(7,.box 78 ((jobD j).map AV.d)),(12,.box 212 [.nil,.nil,.nil,.nil,.nil]),(14,.box 212 [.d (.sl (intE r.topo.parents)),.d (.sl (QaD r.topo.nodes)),.d (.sl (Qaw r.up)),.row 39,.d (.sl (ptE r.lics))]),(39,.row 210 (QaU k.2) false)]⟩) (fun k=>TakP r a b j.need l k.1 k.2) (fun k=>l.length - k.1) (0,r.profs) (by exact ⟨Nat.zero_le _,rfl,hr.profs,rfl⟩) ?_ ?_
   ·refine ⟨rfl,?_,?_,rfl⟩
    repeat'(first|apply And.intro|exact ze0|refine ze1 ?_|refine zei ?_ ?_|exact rfl|trivial)
    all_goals exact Stop.mk (by first|rfl|exact Qad _)
   ·rintro ⟨n,ps⟩ ht
    dsimp only at ht ⊢
    have hle:=ht.le
    have hlen:=ht.len
    have hpl:=Qan ps
    by_cases hn':n<l.length
    ·have hin:=hd.nodes n hn'
     have hok:=ht.ok (nth l n).toNat (by omega)
     have hokl:=hok.len
     have c4:=Qe3 (l:=nth ps (nth l n).toNat) (a:=a) (b:=b) (v:=j.need) (by omega)
     cases hq:Qd1 (nth ps (nth l n).toNat) a b j.need with
     | none=>
      rw [hq] at c4
      rw [Qij ht hn' hq]
      repeat' (first|refine zsr ?_|(refine zhm fun hb=>?_;try exact zab)|refine zdr ?_|(apply zch;exact zcg)|refine HopS.mk fun w0 Z O=>?_|exact zhk|refine zg3 ?_ ?_|refine zln fun _=>?_|refine zop ?_|(refine kw [] (c4) rfl rfl rfl rfl rfl (fun i hi=>?_);(try dsimp only at hi))|fail)
      show AWp _ _ _ _
      refine Qac ?_
      apply Qab
      exact zm () [] trivial zae zae zae
     | some q=>
      rw [hq] at c4
      have hst:=QhV ht hn' (by omega) hq
      repeat' (first|refine zsr ?_|(refine zhm fun hb=>?_;try exact zab)|refine zdr ?_|(apply zch;exact zcg)|refine HopS.mk fun w0 Z O=>?_|exact zhk|refine zg3 ?_ ?_|refine zln fun _=>?_|refine zop ?_|(refine kw [] (c4) rfl rfl rfl rfl rfl (fun i hi=>?_);(try dsimp only at hi))|fail)
      refine ⟨(n+1,ps.set (nth l n).toNat q),hst,by dsimp only;omega,?_⟩
      refine ⟨rfl,?_,?_,rfl⟩
      repeat'(first|apply And.intro|exact ze0|refine ze1 ?_|refine zei ?_ ?_|exact rfl|trivial)
      all_goals exact Stop.mk (by first|rfl|exact QgD _ _ _)
    ·rw [Qky ht hn']
     have hll:=hr.lics.len
     have c4:=Qe3 (l:=r.lics) (a:=a) (b:=b) (v:=j.lic) (by omega)
     cases hq:Qd1 r.lics a b j.lic with
     | none=>
      rw [hq] at c4
      repeat' (first|refine zsr ?_|(refine zhm fun hb=>?_;try exact zab)|refine zdr ?_|(apply zch;exact zcg)|refine HopS.mk fun w0 Z O=>?_|exact zhk|refine zg3 ?_ ?_|refine zln fun _=>?_|refine zop ?_|(refine kw [] (c4) rfl rfl rfl rfl rfl (fun i hi=>?_);(try dsimp only at hi))|fail)
      show AWp _ _ _ _
      refine Qac ?_
      apply Qab
      exact zm () [] trivial zae zae zae
     | some q=>
      rw [hq] at c4
      repeat' (first|refine zsr ?_|(refine zhm fun hb=>?_;try exact zab)|refine zdr ?_|(apply zch;exact zcg)|refine HopS.mk fun w0 Z O=>?_|exact zhk|refine zg3 ?_ ?_|refine zln fun _=>?_|refine zop ?_|(refine kw [] (c4) rfl rfl rfl rfl rfl (fun i hi=>?_);(try dsimp only at hi))|fail)
      show AWp _ _ _ _
      refine Qav 39 rfl ?_
      refine Qac ?_
      apply Qab
      exact zm () [] trivial zae zae zae
theorem QrX {r:Room} {j:Job} {a:Int} {l:List Int} (hr:RoomOk r) (hj:Qau j=true) (hl:l.length≤1000000000) (ha:0≤a∧a≤1000000000):MCalls Tryz.prog 250 [QcC r,jobA j,.d (.n .i64 a),.row 1000000] [(1000000,.row 3 (intE l) true)] (fun _:Unit=>True) (fun _=>QfB (resO r j a (a+j.wall) l)) (fun _=>[(1000000,.row 3 (intE l) true)]) (fun _=>[]):=by
 refine Qag tt Tryz.func250 rfl rfl rfl ⟨.inl rfl,trivial⟩ (fun _ _=>⟨⟨⟨rfl,rfl,rfl⟩,trivial⟩,.inl rfl,trivial⟩) (fun w0 Z O=>?_)
 obtain ⟨_,j2⟩:=Qcg hj
 have c2:=QcB (x:=a)
 rw [show inB a 0 1000000000=true from QcM.mpr ha] at c2
 repeat' (first|refine zsr ?_|(refine zhm fun hb=>?_;try exact zab)|refine zg2 ?_ ?_|refine zon ?_|refine kc (c2) rfl rfl ?_|(refine km [1000000] (Qwi (j:=j) (a:=a) (b:=a+j.wall) hr hl) rfl rfl (fun i hi=>?_);(try dsimp only at hi))|fail)
 show AWp _ _ _ _
 refine Qac ?_
 apply Qab
 exact zm () [] trivial zae zae zae
end Go.Proofs.YtelbahebpmkfjaaGreat
namespace Go.Proofs.YtelbahebpmkfjaaGreat
open Go Go.RowKit
attribute [local irreducible] AWp Qat OpOk ACalls ChA QsOk MCalls NCalls EnC PY

theorem QuL {r:Room} {now depth:Int} {l:List Job} (hr:RoomOk r) (hq:QueueP l) (hnw:0≤now∧now≤1000000000) (hd:0≤depth∧depth≤60):DC Tryz.prog 177 [QcC r,.d (.n .i64 now),.d (.sl (jobE l)),.d (.n .i64 depth)] [.d (.sl (Qel (Qdv r now depth (ordJ l)).2.1)),.d (.sl (Qel (Qdv r now depth (ordJ l)).2.2)),.d (.b true)]:=by
  rw [Quv hq.uni]
  refine Qag tt Tryz.func177 rfl rfl rfl trivial (fun _ _=>⟨trivial,trivial⟩) (fun w0 Z O=>?_)
  have hql:=hq.len
  have c1:=Qht hr
  have c2:=Qh9 (l:=l) (by omega)
  rw [show Qb1 l=true from pB_t.2 hq] at c2
  have c3:=Qce (x:=now)
  rw [show inB now 0 1000000000=true from QcM.mpr hnw] at c3
  have c4:=QvJ hq
  have hjm:∀x∈insL l,Qau x=true:=fun x hx=>hq.ok x ((Qf1 l).mem_iff.1 hx)
  have hjl:=Qot l
  generalize insL l=js at c4 hjm hjl ⊢
  have hle:=Qak js
  repeat' (first|refine zst ?_|(refine zhm fun hb=>?_;try exact zab)|refine zg2 ?_ ?_|refine zln fun _=>?_|refine zop ?_|refine kc (c1) rfl rfl ?_|refine kc (c2) rfl rfl ?_|refine kc (c3) rfl rfl ?_|(refine km [] (c4) rfl rfl (fun i hi=>?_);(try dsimp only at hi))|fail)
  refine Qc5 41 rfl ?_
  refine Qc5 42 rfl ?_
  refine Qae (fun (i:Nat)=>⟨104,[(1,.d (.n .i64 now)),(3,.d (.n .i64 depth)),(4,.ptr 4 0),(11,.row 41),(12,.row 42),(44,.d (.sl (jobE js))),(45,.d (.n .i64 (js.length:Nat))),(46,.d (.n .i64 i))],[(4,.box 212 (QgP (Qdv r now depth (js.take i)).1)),(41,.row 154 (Qel (Qdv r now depth (js.take i)).2.1) false),(42,.row 154 (Qel (Qdv r now depth (js.take i)).2.2) false)]⟩) (fun i=>i≤js.length) (fun i=>js.length - i) 0 (by exact Nat.zero_le _) ?_ ?_
  · refine ⟨rfl,?_,?_,rfl⟩
    repeat'(first|apply And.intro|exact ze0|refine ze1 ?_|refine zei ?_ ?_|exact rfl|trivial)
    all_goals exact Stop.mk (by first|rfl|exact hle)
  intro n hi
  have hI:=Qtr (r:=r) (now:=now) (depth:=depth) (l:=js) hr n hi
  by_cases hi':n<js.length
  · have hst:=QgF (r:=r) (now:=now) (depth:=depth) hi'
    have hj:=hjm _ (QaO hi')
    generalize Qdv r now depth (js.take n)=q at hI hst ⊢
    have hl1:=Qa3 q.2.1
    have hl2:=Qa3 q.2.2
    have hlq:=hI.len
    rw [List.length_take] at hlq
    unfold Qpn at hst
    cases he:earO q.1 (nth js n) now with
    | none=>
      have c5:=Qg0 (j:=nth js n) (a:=now) hI.room hj hnw
      rw [he] at c5 hst
      dsimp only at hst
      repeat' (first|refine zst ?_|(refine zhm fun hb=>?_;try exact zab)|refine zg2 ?_ ?_|refine zln fun _=>?_|refine zop ?_|(refine km [] (c5) rfl rfl (fun i hi=>?_);(try dsimp only at hi))|fail)
      refine ⟨n+1,by omega,by omega,?_⟩
      refine ⟨rfl,?_,?_,rfl⟩
      repeat'(first|apply And.intro|exact ze0|refine ze1 ?_|refine zei ?_ ?_|exact rfl|trivial)
      all_goals exact Stop.mk (by first|rfl|rw [hst])
    | some x=>
      have c5:DC Tryz.prog 244 [QcC q.1,jobA (nth js n),.d (.n .i64 now)] [.d (.n .i64 x.1),.d (.sl (intE x.2)),.d (.b true)]:=by
        have h:=Qg0 (j:=nth js n) (a:=now) hI.room hj hnw
        rw [he] at h
        exact h
      obtain ⟨hx1,hx2⟩:=QlR hI.room hj hnw he
      rw [he] at hst
      dsimp only at hst
      by_cases hc:now<x.1∧depth≤q.2.2.length
      · rw [if_pos hc] at hst
        obtain ⟨hc1,hc2⟩:=hc
        repeat' (first|refine zst ?_|(refine zhm fun hb=>?_;try exact zab)|refine zg2 ?_ ?_|refine zln fun _=>?_|refine zop ?_|(refine km [] (c5) rfl rfl (fun i hi=>?_);(try dsimp only at hi))|fail)
        refine ⟨n+1,by omega,by omega,?_⟩
        refine ⟨rfl,?_,?_,rfl⟩
        repeat'(first|apply And.intro|exact ze0|refine ze1 ?_|refine zei ?_ ?_|exact rfl|trivial)
        all_goals exact Stop.mk (by first|rfl|rw [hst])
      · rw [if_neg hc] at hst
        have c6:=Qik (j:=nth js n) (a:=x.1) (l:=x.2) hI.room (by omega) (by omega)
        cases hr':resO q.1 (nth js n) x.1 (x.1+(nth js n).wall) x.2 with
        | none=>
          rw [hr'] at c6 hst
          dsimp only at hst
          repeat' (first|refine zst ?_|(refine zhm fun hb=>?_;try exact zab)|refine zg2 ?_ ?_|refine zln fun _=>?_|refine zop ?_|(refine km [] (c5) rfl rfl (fun i hi=>?_);(try dsimp only at hi))|(refine km [] (c6) rfl rfl (fun i hi=>?_);(try dsimp only at hi))|fail)
          all_goals first
            | (exfalso;omega)
            | (refine ⟨n+1,by omega,by omega,?_⟩
               refine ⟨rfl,?_,?_,rfl⟩
               repeat'(first|apply And.intro|exact ze0|refine ze1 ?_|refine zei ?_ ?_|exact rfl|trivial)
               all_goals exact Stop.mk (by first|rfl|rw [hst]))
        | some r'=>
          rw [hr'] at c6 hst
          dsimp only at hst
          by_cases ht:x.1=now
          · rw [if_pos ht] at hst
            repeat' (first|refine zst ?_|(refine zhm fun hb=>?_;try exact zab)|refine zg2 ?_ ?_|(apply Qcj;first|(fail))|refine zln fun _=>?_|refine zop ?_|(refine km [] (c5) rfl rfl (fun i hi=>?_);(try dsimp only at hi))|(refine km [] (c6) rfl rfl (fun i hi=>?_);(try dsimp only at hi))|fail)
            all_goals first
              | (exfalso;omega)
              | (refine ⟨n+1,by omega,by omega,?_⟩
                 refine ⟨rfl,?_,?_,rfl⟩
                 repeat'(first|apply And.intro|exact ze0|refine ze1 ?_|refine zei ?_ ?_|exact rfl|trivial)
                 all_goals exact Stop.mk (by first|rfl|(rw [hst];exact Qfh _ ⟨_,_,_⟩)|(rw [hst];done)|(rw [hst];rfl)))
          · rw [if_neg ht] at hst
            repeat' (first|refine zst ?_|(refine zhm fun hb=>?_;try exact zab)|refine zg2 ?_ ?_|(apply Qcj;first|(fail))|refine zln fun _=>?_|refine zop ?_|(refine km [] (c5) rfl rfl (fun i hi=>?_);(try dsimp only at hi))|(refine km [] (c6) rfl rfl (fun i hi=>?_);(try dsimp only at hi))|fail)
            all_goals first
              | (exfalso;omega)
              | (refine ⟨n+1,by omega,by omega,?_⟩
                 refine ⟨rfl,?_,?_,rfl⟩
                 repeat'(first|apply And.intro|exact ze0|refine ze1 ?_|refine zei ?_ ?_|exact rfl|trivial)
                 all_goals exact Stop.mk (by first|rfl|(rw [hst];exact Qfh _ ⟨_,_,_⟩)|(rw [hst];done)|(rw [hst];rfl)))
  · obtain rfl:n=js.length:=by omega
    rw [List.take_length] at *
    repeat' (first|refine zsr ?_|(refine zhm fun hb=>?_;try exact zab)|refine zg2 ?_ ?_|refine zln fun _=>?_|refine zop ?_|fail)
    show AWp _ _ _ _
    refine Qav 41 rfl ?_
    show AWp _ _ _ _
    refine Qav 42 rfl ?_
    refine Qac ?_
    apply Qab
    exact zm () [] trivial zae zae zae
theorem QuN {r:Room} {now depth:Int} {l:List Job} (hr:RoomOk r) (hq:QueueP l) (hnw:0≤now∧now≤1000000000) (hd:0≤depth∧depth≤60):MCalls Tryz.prog 180 [QcC r,.d (.n .i64 now),.d (.sl (jobE l)),.d (.n .i64 depth)] [] (fun _:Unit=>True) (fun _=>[.row 0,.row 1,.d (.b true)]) (fun _=>[]) (fun _=>[(0,.row 154 (Qel (Qdv r now depth (ordJ l)).2.1) true),(1,.row 154 (Qel (Qdv r now depth (ordJ l)).2.2) true)]):=by
  refine Qag tt Tryz.func180 rfl rfl rfl trivial (fun _ _=>⟨trivial,trivial⟩) (fun w0 Z O=>?_)
  have hql:=hq.len
  have c1:=Qhx hr
  have c2:=Qll (l:=l) (by omega)
  rw [show Qb1 l=true from pB_t.2 hq] at c2
  have c3:=QcB (x:=now)
  rw [show inB now 0 1000000000=true from QcM.mpr hnw] at c3
  have c4:=QvS hq
  have hjm:∀x∈ordJ l,Qau x=true:=fun x hx=>hq.ok x (Qnq.1 hx)
  have hjl:=Qb3 l
  generalize ordJ l=js at c4 hjm hjl ⊢
  have hle:=Qak js
  repeat' (first|refine zst ?_|(refine zhm fun hb=>?_;try exact zab)|refine zg2 ?_ ?_|refine zln fun _=>?_|refine zop ?_|refine kc (c1) rfl rfl ?_|refine kc (c2) rfl rfl ?_|refine kc (c3) rfl rfl ?_|refine kc (QaX) rfl rfl ?_|(refine km [] (c4) rfl rfl (fun i hi=>?_);(try dsimp only at hi))|fail)
  refine Qae (fun (i:Nat)=>⟨99,[(1,.d (.n .i64 now)),(3,.d (.n .i64 depth)),(4,.ptr 4 0),(11,.row 39),(12,.row 40),(42,.d (.sl (jobE js))),(43,.d (.n .i64 (js.length:Nat))),(44,.d (.n .i64 i))],[(4,.box 212 (QgP (Qdv r now depth (js.take i)).1)),(39,.row 154 (Qel (Qdv r now depth (js.take i)).2.1) true),(40,.row 154 (Qel (Qdv r now depth (js.take i)).2.2) true)]⟩) (fun i=>i≤js.length) (fun i=>js.length - i) 0 (by exact Nat.zero_le _) ?_ ?_
  · refine ⟨rfl,?_,?_,rfl⟩
    repeat'(first|apply And.intro|exact ze0|refine ze1 ?_|refine zei ?_ ?_|exact rfl|trivial)
    all_goals exact Stop.mk (by first|rfl|exact hle)
  intro n hi
  have hI:=Qtr (r:=r) (now:=now) (depth:=depth) (l:=js) hr n hi
  by_cases hi':n<js.length
  · have hst:=QgF (r:=r) (now:=now) (depth:=depth) hi'
    have hj:=hjm _ (QaO hi')
    generalize Qdv r now depth (js.take n)=q at hI hst ⊢
    have hl1:=Qa3 q.2.1
    have hl2:=Qa3 q.2.2
    have hlq:=hI.len
    rw [List.length_take] at hlq
    unfold Qpn at hst
    have c5:=QjQ (j:=nth js n) (a:=now) hI.room hj hnw
    cases he:earO q.1 (nth js n) now with
    | none=>
      rw [he] at c5 hst
      dsimp only at hst
      repeat' (first|refine zst ?_|(refine zhm fun hb=>?_;try exact zab)|refine zg2 ?_ ?_|refine zln fun _=>?_|refine zop ?_|(refine km [] (c5) rfl rfl (fun i hi=>?_);(try dsimp only at hi))|fail)
      refine ⟨n+1,by omega,by omega,?_⟩
      refine ⟨rfl,?_,?_,rfl⟩
      repeat'(first|apply And.intro|exact ze0|refine ze1 ?_|refine zei ?_ ?_|exact rfl|trivial)
      all_goals exact Stop.mk (by first|rfl|rw [hst])
    | some x=>
      rw [he] at c5
      obtain ⟨hx1,hx2⟩:=QlR hI.room hj hnw he
      rw [he] at hst
      dsimp only at hst
      by_cases hc:now<x.1∧depth≤q.2.2.length
      · rw [if_pos hc] at hst
        obtain ⟨hc1,hc2⟩:=hc
        repeat' (first|refine zst ?_|(refine zhm fun hb=>?_;try exact zab)|refine zg2 ?_ ?_|refine zln fun _=>?_|refine zop ?_|(refine km [] (c5) rfl rfl (fun i hi=>?_);(try dsimp only at hi))|fail)
        refine ⟨n+1,by omega,by omega,?_⟩
        refine ⟨rfl,?_,?_,rfl⟩
        repeat'(first|apply And.intro|exact ze0|refine ze1 ?_|refine zei ?_ ?_|exact rfl|trivial)
        all_goals exact Stop.mk (by first|rfl|rw [hst])
      · rw [if_neg hc] at hst
        have c6:=QrX (j:=nth js n) (a:=x.1) (l:=x.2) hI.room hj (by omega) (by omega)
        cases hr':resO q.1 (nth js n) x.1 (x.1+(nth js n).wall) x.2 with
        | none=>
          rw [hr'] at c6 hst
          dsimp only at hst
          repeat' (first|refine zst ?_|(refine zhm fun hb=>?_;try exact zab)|refine zg2 ?_ ?_|refine zln fun _=>?_|refine zop ?_|(refine km [] (c5) rfl rfl (fun i hi=>?_);(try dsimp only at hi))|(refine km [52] (c6) rfl rfl (fun i hi=>?_);(try dsimp only at hi))|fail)
          all_goals first
            | (exfalso;omega)
            | (refine ⟨n+1,by omega,by omega,?_⟩
               refine ⟨rfl,?_,?_,rfl⟩
               repeat'(first|apply And.intro|exact ze0|refine ze1 ?_|refine zei ?_ ?_|exact rfl|trivial)
               all_goals exact Stop.mk (by first|rfl|rw [hst]))
        | some r'=>
          rw [hr'] at c6 hst
          dsimp only at hst
          by_cases ht:x.1=now
          · rw [if_pos ht] at hst
            repeat' (first|refine zst ?_|(refine zhm fun hb=>?_;try exact zab)|refine zg2 ?_ ?_|(apply Qcj;first|(refine Qdr rfl rfl rfl ⟨rfl,rfl,rfl⟩ rfl rfl rfl rfl rfl rfl rfl rfl (QaG fun _=>rfl) rfl rfl rfl rfl rfl ?_)|(refine QbC rfl rfl rfl rfl rfl rfl rfl rfl ⟨rfl,rfl,rfl⟩ (Qa3 _) (rfl:_=1) (by omega) rfl rfl ?_))|refine zln fun _=>?_|refine zop ?_|(refine km [] (c5) rfl rfl (fun i hi=>?_);(try dsimp only at hi))|(refine km [52] (c6) rfl rfl (fun i hi=>?_);(try dsimp only at hi))|fail)
            all_goals first
              | (exfalso;omega)
              | (refine ⟨n+1,by omega,by omega,?_⟩
                 refine ⟨rfl,?_,?_,rfl⟩
                 repeat'(first|apply And.intro|exact ze0|refine ze1 ?_|refine zei ?_ ?_|exact rfl|trivial)
                 all_goals exact Stop.mk (by first|rfl|(rw [hst];exact Qfh _ ⟨_,_,_⟩)|(rw [hst];done)|(rw [hst];rfl)))
          · rw [if_neg ht] at hst
            repeat' (first|refine zst ?_|(refine zhm fun hb=>?_;try exact zab)|refine zg2 ?_ ?_|(apply Qcj;first|(refine Qdr rfl rfl rfl ⟨rfl,rfl,rfl⟩ rfl rfl rfl rfl rfl rfl rfl rfl (QaG fun _=>rfl) rfl rfl rfl rfl rfl ?_)|(refine QbC rfl rfl rfl rfl rfl rfl rfl rfl ⟨rfl,rfl,rfl⟩ (Qa3 _) (rfl:_=1) (by omega) rfl rfl ?_))|refine zln fun _=>?_|refine zop ?_|(refine km [] (c5) rfl rfl (fun i hi=>?_);(try dsimp only at hi))|(refine km [52] (c6) rfl rfl (fun i hi=>?_);(try dsimp only at hi))|fail)
            all_goals first
              | (exfalso;omega)
              | (refine ⟨n+1,by omega,by omega,?_⟩
                 refine ⟨rfl,?_,?_,rfl⟩
                 repeat'(first|apply And.intro|exact ze0|refine ze1 ?_|refine zei ?_ ?_|exact rfl|trivial)
                 all_goals exact Stop.mk (by first|rfl|(rw [hst];exact Qfh _ ⟨_,_,_⟩)|(rw [hst];done)|(rw [hst];rfl)))
  · obtain rfl:n=js.length:=by omega
    rw [List.take_length] at *
    repeat' (first|refine zsr ?_|(refine zhm fun hb=>?_;try exact zab)|refine zg2 ?_ ?_|refine zln fun _=>?_|refine zop ?_|fail)
    show AWp _ _ _ _
    refine Qac ?_
    apply Qab
    exact zm () [39,40] trivial zae zae zae
end Go.Proofs.YtelbahebpmkfjaaGreat
