/-
  The library's sort by a function, at jobs: the order of the queue.
-/
import Derived.Test.YtihgfennoalocaaGreatKB15
import Derived.Test.YtihgfennoalocaaGreatKB21
set_option maxRecDepth 100000
set_option maxHeartbeats 16000000
namespace Go.Proofs.YtihgfennoalocaaGreat
open Go Go.RowKit Go.Sort Go.Shelf

def cfJ(x y:Job):Int:=if x.prio≠y.prio then y.prio-x.prio else x.id-y.id
@[reducible] def jobV (j:Job):List Value:=[.int .i64 j.id,.int .i64 j.prio,.int .i64 j.nodes,.int .i64 j.need.a,.int .i64 j.need.b,.int .i64 j.need.c,.int .i64 j.lic.a,.int .i64 j.lic.b,.int .i64 j.lic.c,.int .i64 j.wall,.int .i64 j.level]
theorem Qh0{x y:Job}(W:World)(hx:(1<=x.id/\x.id<=999)/\0<=x.prio/\x.prio<=999)(hy:(1<=y.id/\y.id<=999)/\0<=y.prio/\y.prio<=999) :
  Calls Tryz.prog 332 #[.agg (jobV x).toArray,.agg (jobV y).toArray] W fun e w'=>e=.returned (.int .i64 (cfJ x y))/\∃q os',w'=grow (W.drewN q) os':=by
 obtain⟨⟨x1,x2⟩,x3,x4⟩:=hx
 obtain⟨⟨y1,y2⟩,y3,y4⟩:=hy
 unfold cfJ
 by_cases hp:x.prio=y.prio
 ·rw[if_neg (fun h=>h hp)]
  go_enter Tryz.func332,Tryz.ntmps332
  go_wp2
  go_ret
  exact⟨rfl,0,_,by rw[alloc_eq_grow,alloc_eq_grow,grow_grow];rfl⟩
 ·rw[if_pos hp]
  go_enter Tryz.func332,Tryz.ntmps332
  go_wp2
  go_ret
  exact⟨rfl,0,_,by rw[alloc_eq_grow,alloc_eq_grow,grow_grow];rfl⟩
theorem Qdo{α β:Type}{enc:α->List β}{k:Nat}(hk:∀x,(enc x).length=k)(hk0:0<k):∀(d:List α) (t:Nat),(d.flatMap enc)[t]?=(d[t / k]?).bind fun x=>(enc x)[t % k]?
 | [],t=>by simp
 | x::d,t=>by
  rw[Xbk]
  by_cases h:t<k
  ·rw[List.getElem?_append_left (by rw[hk];exact h),Xcn h,Xco h]
   rfl
  ·rw[List.getElem?_append_right (by rw[hk];omega),hk,Qdo hk hk0 d (t-k)]
   have e1:t / k=(t-k) / k+1:=by rw[Nat.div_eq_sub_div hk0 (by omega)]
   have e2:t % k=(t-k) % k:=Nat.mod_eq_sub_mod (by omega)
   rw[e1,e2]
   rfl
theorem XL{α β:Type}{enc:α->List β}{k:Nat}(hk:∀x,(enc x).length=k):∀(d:List α),(d.flatMap enc).length=d.length*k
 | []=>by simp
 | x::d=>by rw[Xbk,Xac,hk,XL hk d,Xar,XaR];omega
theorem QlH{α:Type}[Inhabited α]{enc:α->List Value}{k:Nat}(hk:∀x,(enc x).length=k)(hk0:0<k)(d:List α):flatK enc k d.toArray=(d.flatMap enc).toArray:=by
 apply Array.ext'
 refine List.ext_getElem? fun t=>?_
 have hg:=Qdo hk hk0 d t
 have hl:=XL hk d
 by_cases h:t<d.length*k
 ·have h1:t / k<d.length:=Nat.div_lt_of_lt_mul (by rw[Xcj];exact h)
  have h2:t % k<(enc d[t / k]).length:=by rw[hk];exact Nat.mod_lt _ hk0
  rw[List.toList_toArray,hg,List.getElem?_eq_getElem h1,Xbd,List.getElem?_eq_getElem h2]
  simp only[flatK,Array.toList_map,List.getElem?_map,Array.getElem?_toList,XbB]
  rw[Array.getElem?_eq_getElem (by simpa using h)]
  simp[h1,h2]
 ·rw[List.getElem?_eq_none (show(flatK enc k d.toArray).toList.length<=t by rw[Xay,size_flatK];simpa using Xcp h),List.toList_toArray,List.getElem?_eq_none (by omega)]
theorem QhL{w:World}:∀{xs:List Int} {us:List Value} {F:List Nat},repL w (xs.map (D.n .i64)) us F->us=xs.map (Value.int .i64)
 | [],_,_,h=>h.1
 | x::xs,us,F,h=>by
  obtain⟨u,us',F1,F2,rfl,_,h1,h2⟩:=h
  obtain⟨rfl,_⟩:=h1
  rw[QhL h2]
  rfl
theorem Qe9(w:World):∀(xs:List Int),repL w (xs.map (D.n .i64)) (xs.map (Value.int .i64)) []
 | []=>⟨rfl,rfl⟩
 | _::xs=>⟨_,_,[],[],rfl,rfl,⟨rfl,rfl⟩,Qe9 w xs⟩
def jobI(j:Job):List Int:=[j.id,j.prio,j.nodes,j.need.a,j.need.b,j.need.c,j.lic.a,j.lic.b,j.lic.c,j.wall,j.level]
theorem Qkl{w:World}:∀{l:List Job} {us:List Value} {F:List Nat},repE w (jobE l) us F->us=l.flatMap jobV
 | [],_,_,h=>h.1
 | x::l,us,F,h=>by
  obtain⟨u1,u2,F1,F2,rfl,_,h1,h2⟩:=h
  rw[Qkl h2,show u1=jobV x from QhL (xs:=jobI x) h1]
  rfl
theorem Qg0(w:World):∀(l:List Job),repE w (jobE l) (l.flatMap jobV) []
 | []=>⟨rfl,rfl⟩
 | x::l=>⟨jobV x,l.flatMap jobV,[],[],rfl,rfl,Qe9 w (jobI x),Qg0 w l⟩
theorem QcD{w:World}{g n:Nat}{cur:Array Value}{e:TypeId}{vs:List Value}(hb:w.heap[g]?=some (.cells cur e (0,0)))(hn:n=vs.length)(ht:cur.toList.take n=vs):Holds id w g 0 vs.toArray:=by
 intro j hj
 have hj':j<vs.length:=by simpa using hj
 refine⟨?_,by simp[World.frozen?,hb]⟩
 have h1:(cur.toList.take n)[j]?=vs[j]?:=by rw[ht]
 rw[List.getElem?_take_of_lt (by omega)]at h1
 simp only[World.cell?,hb,XaZ]
 simp only[Option.isSome_none,XaV,if_false]
 rw[<-Array.getElem?_toList,h1]
 simp[hj']
theorem Qie{w:World}{g n:Nat}{os:Array Obj}{cur:Array Value}{e:TypeId}{fr:Nat×Nat}(d:Array Value)(hb:w.heap[g]?=some (.cells cur e fr)) :
  (grow (putRow id (Sort.ahead w n) g 0 d) os).heap[g]?=some (.cells (putCells id 0 d cur) e fr):=by
 have hg:g<w.heap.size:=(Array.getElem?_eq_some_iff.1 hb).1
 rw[heap_grow_old _ _ (by simpa using hg)]
 simp[putRow,mapBlock,Sort.ahead,Array.getElem?_modify,hb,onCells]
theorem QdE{w:World}{g n:Nat}{os:Array Obj}(d:Array Value):w.grownBy (grow (putRow id (Sort.ahead w n) g 0 d) os) (some g):=by
 refine⟨rfl,rfl,rfl,by simp,fun k hk hne=>?_⟩
 rw[heap_grow_old _ _ (by simpa using hk)]
 have:g≠k:=fun e=>hne (by rw[e])
 simp[putRow,mapBlock,Sort.ahead,Array.getElem?_modify,this]
theorem Qem(cur:Array Value)(ts:List Value)(h:ts.length<=cur.size):(putCells id 0 ts.toArray cur).toList.take ts.length=ts:=by
 apply List.ext_getElem?
 intro j
 by_cases hj:j<ts.length
 ·rw[List.getElem?_take_of_lt hj,Array.getElem?_toList]
  simp[putCells,hj,show j<cur.size by omega]
 ·rw[List.getElem?_take_eq_none (by omega),List.getElem?_eq_none (by omega)]
theorem XD(x y:Job):cfJ x y<0↔y.prio<x.prio\/x.prio=y.prio/\x.id<y.id:=by
 unfold cfJ
 split <;> omega
theorem Qtk{α:Type}(f:α->Job):SWO (ltOf fun x y:α=>cfJ (f x) (f y)) where
 irrefl x:=decide_eq_false fun h=>by have:=(XD _ _).1 h;omega
 trans x y z h1 h2:=decide_eq_true ((XD _ _).2 (by
  have h1:=(XD _ _).1 (of_decide_eq_true h1)
  have h2:=(XD _ _).1 (of_decide_eq_true h2)
  omega))
 ntrans x y z h1 h2:=decide_eq_false fun h=>by
  have h:=(XD _ _).1 h
  have h1:¬_:=fun e=>of_decide_eq_false h1 ((XD _ _).2 e)
  have h2:¬_:=fun e=>of_decide_eq_false h2 ((XD _ _).2 e)
  omega
def ordJ(l:List Job):List Job:=l.mergeSort fun x y=>!decide (cfJ y x<0)
theorem YU(l:List Job):(ordJ l).length=l.length:=Xcl l
theorem Qko{l:List Job}{x:Job}:x∈ordJ l↔x∈l:=(XbC l _).mem_iff
theorem QtH{l:List Job}{dd:Bool}(hl:∀x∈l,Qu x=true)(hd:∀x∈l,∀y∈l,x.id=y.id->x=y)(hll:l.length<=1000000) :
  MCalls Tryz.prog 331 [.row 1000000,.clo 332 []] [(1000000,.row 72 (jobE l) dd)] (fun _:Unit=>True) (fun _=>[]) (fun _=>[(1000000,.row 72 (jobE (ordJ l)) dd)]) (fun _=>[]):=by
 refine QdO (z:=11) ti72.sized (QN fun _=>rfl) (QN fun _=>rfl) (JN (f:=jobD) (z:=11) (fun _=>rfl) (YU l)) (fun us w'=>Go.MuLone.run_callFunc_enter Tryz.func331 rfl rfl us w') ?_
 intro w v us us2 en S ho hr hsh hS
 have hus:=Qkl hr
 subst hus
 have hjl:(jobE l).length=l.length:=Xah _
 rw[hjl]at ho ⊢
 obtain⟨fv,us3,rfl,hf,h3⟩:=hsh
 have h3':us3=[]:=h3
 subst h3'
 obtain⟨cbs,rfl,hcb⟩:=hf
 have hcb':cbs=[]:=hcb
 subst hcb'
 rcases l with _|⟨x0,l'⟩
 ·have e0:ordJ []=[]:=XaA (YU [])
  rw[e0]
  obtain⟨p,cap,rfl⟩:∃p cap,v=.slice p 0 cap:=by
   rcases ho.2 with ⟨hv,_⟩|⟨g,cap,cur,hv,_⟩
   ·exact⟨none,0,hv⟩
   ·exact⟨_,cap,hv⟩
  have hcon:=AnyF.slices_SortFunc_none Tryz.sortJ p cap (.func (.func 332) #[] #[]) w
  change Calls Tryz.prog 331 _ _ _ at hcon
  refine hcon.mono fun e w' ⟨he,hw⟩=>?_
  subst hw
  exact⟨he,Qeu _ _,[],ho,rfl,rfl⟩
 rcases ho.2 with ⟨hv,hn⟩|⟨g,cap,cur,hv,hbg,hg,hnc,hcm,hcs,htake⟩
 ·simp at hn
 subst hv
 have hgl:=(Array.getElem?_eq_some_iff.1 hg).1
 haveI:Inhabited { x:Job // x∈x0::l' }:=⟨⟨x0,Xaa⟩⟩
 have hat:(x0::l').attach.map Subtype.val=x0::l':=List.attach_map_subtype_val _
 generalize (x0::l').attach=d at hat
 have hdl:d.toArray.size=(x0::l').length:=by have h:=congrArg List.length hat;rw[Xah]at h;rw[XbB];exact h
 have hfl:∀q:List { x:Job // x∈x0::l' },flatK (fun x:{ x:Job // x∈x0::l' }=>jobV x.1) 11 q.toArray=((q.map Subtype.val).flatMap jobV).toArray:=fun q=>by
  rw[QlH (enc:=fun x:{ x:Job // x∈x0::l' }=>jobV x.1) (k:=11) (fun _=>rfl) (by omega),List.flatMap_map]
 have hvl:∀q:List Job,(q.flatMap jobV).length=q.length*11:=fun q=>XL (enc:=jobV) (k:=11) (fun _=>rfl) q
 have hH:HoldsK (fun x:{ x:Job // x∈x0::l' }=>jobV x.1) 11 w g 0 d.toArray:=by
  unfold HoldsK
  rw[hfl,hat]
  exact QcD hg (hvl _).symm htake
 have hin:∀x:{ x:Job // x∈x0::l' },(1<=x.1.id/\x.1.id<=999)/\0<=x.1.prio/\x.1.prio<=999:=fun x=>by
  have h:=hl x.1 x.2
  simp only[Qu,Xaf,Yr]at h
  exact⟨h.1.1.1.1.1.1,h.1.1.1.1.1.2⟩
 have hcmp:CmpLays Tryz.prog 332 #[] (fun x:{ x:Job // x∈x0::l' }=>jobV x.1) 11 (fun x y=>cfJ x.1 y.1) g 0 d.toArray.size w:=
  fun _ _ _ _ x y=>Qh0 _ (hin x) (hin y)
 have hcon:=AnyQ.slices_SortFunc_total Tryz.sortJ 11 Tryz.isAgg72 Tryz.sizeOf72 (fun x:{ x:Job // x∈x0::l' }=>jobV x.1) (fun _=>rfl) (fun x v hv=>by simp only[Xaj,Xb9,or_false]at hv;rcases hv with rfl|rfl|rfl|rfl|rfl|rfl|rfl|rfl|rfl|rfl|rfl <;> rfl) (fun x y=>cfJ x.1 y.1) (Qtk _) 332 #[] g 0 cap d.toArray w
  (fun args w'=>Go.MuLone.run_callFunc_enter Tryz.func332 rfl rfl args w') hcmp hH hgl (by rw[hdl];omega)
  (fun x y h1 h2=>Subtype.ext (hd _ x.2 _ y.2 (by
   have h1:¬_:=fun e=>of_decide_eq_false h1 ((XD _ _).2 e)
   have h2:¬_:=fun e=>of_decide_eq_false h2 ((XD _ _).2 e)
   omega)))
 rw[hdl]at hcon
 change Calls Tryz.prog 331 _ _ _ at hcon
 have hsv:(d.mergeSort fun x y=>!(ltOf fun x y:{ x:Job // x∈x0::l' }=>cfJ x.1 y.1) y x).map Subtype.val=ordJ (x0::l'):=by
  refine Eq.trans (List.map_mergeSort (s:=fun x y=>!decide (cfJ y x<0)) fun a _ b _=>rfl) ?_
  rw[hat]
  rfl
 refine hcon.mono fun e w' ⟨he,n,os,hw⟩=>?_
 have hw2:w'=grow (putRow id (Sort.ahead w n) g 0 ((ordJ (x0::l')).flatMap jobV).toArray) os:=by
  rw[hw]
  unfold sortWorldK putRowK
  rw[hfl]
  exact congrArg (fun q:List Job=>grow (putRow id (Sort.ahead w n) g 0 (q.flatMap jobV).toArray) os) hsv
 subst hw2
 have hol:=YU (x0::l')
 have hql:=hvl (ordJ (x0::l'))
 refine⟨he,QdE _,(ordJ (x0::l')).flatMap jobV,⟨by rw[hql,hol],.inr ⟨g,cap,_,rfl,hbg,Qie _ hg,hnc,hcm,by simpa [putCells] using hcs,?_⟩⟩,Qg0 _ _⟩
 rw[show(x0::l').length*11=((ordJ (x0::l')).flatMap jobV).length by rw[hql,hol]]
 refine Qem _ _ ?_
 rw[hql,hol,hcs]
 exact XaH 11 hnc
end Go.Proofs.YtihgfennoalocaaGreat
namespace Go.Proofs.YtihgfennoalocaaGreat
open Go Go.RowKit Go.Sort

theorem QaQ{a b:Job}:befB a b=true↔b.prio<a.prio\/a.prio=b.prio/\a.id<b.id:=by simp[befB]
theorem QiR{a b:Job}:decide (cfJ a b<0)=befB a b:=by
 rw[Xan,decide_eq_true_eq,XD,QaQ]
def insJ(j:Job):List Job->List Job
 | []=>[j]
 | x::l=>if befB j x=true then j::x::l else x::insJ j l
def insS(j:Job)(q:List Job×Bool)(x:Job):List Job×Bool:=if q.2=false/\befB j x=true then(q.1++[j]++[x],true) else(q.1++[x],q.2)
def X4(j:Job)(l:List Job):List Job×Bool:=l.foldl (insS j) ([],false)
theorem Ql0{j:Job}{l:List Job}{i:Nat}(h:i<l.length):X4 j (l.take (i+1))=insS j (X4 j (l.take i)) (nth l i):=by
 rw[QI h,X4,XaQ]
 rfl
theorem Qch{j:Job}:∀(l:List Job) (a:List Job),(let q:=l.foldl (insS j) (a,false);if q.2=true then q.1 else q.1++[j])=a++insJ j l/\(l.foldl (insS j) (a,true))=(a++l,true)
 | [],a=>by simp[insJ]
 | x::l,a=>by
  obtain⟨h1,_⟩:=Qch (j:=j) l (a++[x])
  have h2:=(Qch (j:=j) l (a++[j]++[x])).2
  have h3:=(Qch (j:=j) l (a++[x])).2
  constructor
  ·simp only[Xbj,insS,insJ]
   by_cases hn:befB j x=true
   ·simp only[hn,and_self,if_true]
    rw[h2]
    simp
   ·simp only[hn]
    simpa using h1
  ·simp only[Xbj,insS,Bool.true_eq_false,false_and,if_false]
   rw[h3]
   simp
theorem QpN{j:Job}{l:List Job}:(if(X4 j l).2=true then(X4 j l).1 else(X4 j l).1++[j])=insJ j l:=by
 have:=(Qch (j:=j) l []).1
 rw[Xa5]at this
 exact this
theorem Qqe(j:Job)(q:List Job×Bool)(x:Job):(insS j q x).1.length+(if(insS j q x).2=true then 0 else 1)=q.1.length+(if q.2=true then 0 else 1)+1:=by
 unfold insS
 split
 ·rename_i h
  rw[h.1];simp
 ·simp;split <;> omega
theorem QnZ(j:Job):∀(l:List Job),(X4 j l).1.length<=l.length+1:=by
 intro l
 have key:∀(l:List Job) (q:List Job×Bool),(l.foldl (insS j) q).1.length+(if(l.foldl (insS j) q).2=true then 0 else 1)=q.1.length+(if q.2=true then 0 else 1)+l.length:=by
  intro l
  induction l with
  | nil=>intro q;rfl
  | cons x l ih=>intro q;rw[Xbj,ih,Qqe,Xar];omega
 have:=key l ([],false)
 simp at this
 unfold X4
 omega
theorem Qc4(j:Job):∀(l:List Job),(insJ j l).Perm (j::l)
 | []=>Xbv _
 | x::l=>by
  unfold insJ
  split
  ·exact Xbv _
  ·exact((Qc4 j l).cons x).trans (List.Perm.swap j x l)
def srtd(l:List Job):Prop:=l.Pairwise fun a b=>befB b a=false
theorem Qnl{a b c:Job}(h1:befB b a=false)(h2:befB c b=false):befB c a=false:=by
 rw[<-XbA,QaQ]at *
 omega
theorem QiD{a b:Job}(h1:befB a b=true):befB b a=false:=by
 rw[<-XbA,QaQ]
 rw[QaQ]at h1
 omega
theorem QkR(j:Job):∀(l:List Job),srtd l->srtd (insJ j l)
 | [],_=>by simp[insJ,srtd]
 | x::l,h=>by
  unfold insJ
  have h':=Xau.1 h
  split
  ·rename_i hn
   refine Xau.2 ⟨fun y hy=>?_,h⟩
   rcases Xaj.1 hy with rfl|hy
   ·exact QiD hn
   ·exact Qnl (QiD hn) (h'.1 y hy)
  ·rename_i hn
   refine Xau.2 ⟨fun y hy=>?_,QkR j l h'.2⟩
   rcases Xaj.1 ((Qc4 j l).mem_iff.1 hy)with rfl|hy
   ·simpa using hn
   ·exact h'.1 y hy
def insL(l:List Job):List Job:=l.foldl (fun o x=>insJ x o) []
theorem Qns{l:List Job}{i:Nat}(h:i<l.length):insL (l.take (i+1))=insJ (nth l i) (insL (l.take i)):=by
 rw[QI h,insL,XaQ]
 rfl
theorem Qjj:∀(q o:List Job),srtd o->srtd (q.foldl (fun o x=>insJ x o) o)/\(q.foldl (fun o x=>insJ x o) o).Perm (o++q)
 | [],o,h=>⟨h,by rw[Xa2];exact Xbv _⟩
 | x::q,o,h=>by
  obtain⟨h1,h2⟩:=Qjj q (insJ x o) (QkR x o h)
  refine⟨h1,h2.trans ?_⟩
  exact(((Qc4 x o).append_right q).trans (List.perm_middle (l₁:=o) (l₂:=q) (a:=x)).symm)
theorem QaA(l:List Job):(insL l).Perm l:=(Qjj l [] List.Pairwise.nil).2
theorem Qk8(l:List Job):(insL l).length=l.length:=(QaA l).length_eq
def uniJ(l:List Job):Prop:=∀x∈l,∀y∈l,x.id=y.id->x=y
theorem Jm.uni{l:List Job}(h:Jm l):uniJ l:=fun x hx y hy e=>by
 obtain⟨i,hi,rfl⟩:=J1 hx
 obtain⟨k,hk,rfl⟩:=J1 hy
 rcases Nat.lt_trichotomy i k with h1|h1|h1
 ·exact absurd e (h.diff k hk i h1)
 ·rw[h1]
 ·exact absurd e.symm (h.diff i hi k h1)
theorem Qqu(l:List Job):srtd (ordJ l):=by
 have h:=Xcf (le:=fun x y=>!decide (cfJ y x<0)) (fun a b c h1 h2=>?_) (fun a b=>?_) l
 ·refine h.imp fun {a b} hab=>?_
  rw[QiR]at hab
  simpa using hab
 ·simp only[QiR,Xa6]at h1 h2 ⊢
  exact Qnl h1 h2
 ·simp only[QiR,Xcs,Xa6]
  cases hb:befB b a with
  | false=>exact .inl rfl
  | true=>exact .inr (QiD hb)
theorem Qqb{l:List Job}(h:uniJ l):ordJ l=insL l:=by
 refine List.Perm.eq_of_pairwise (le:=fun a b=>befB b a=false) (fun a b ha hb h1 h2=>h a (Qko.1 ha) b ((QaA l).mem_iff.1 hb) ?_) (Qqu l) (Qjj l [] List.Pairwise.nil).1 ((XbC l _).trans (QaA l).symm)
 rw[<-XbA,QaQ]at h1 h2
 omega
def Qba(l:List Job)(id:Int):Option Job:=l.find? fun j=>j.id==id
theorem Qk7{l:List Job}{id:Int}{i:Nat}(hi:i<l.length)(h:(nth l i).id=id)(hp:∀j,j<i->(nth l j).id≠id):Qba l id=some (nth l i):=by
 unfold Qba
 rw[List.find?_eq_some_iff_getElem]
 rw[Ja hi]at h ⊢
 refine⟨beq_iff_eq.2 h,i,hi,rfl,fun j hj=>?_⟩
 have:=hp j hj
 rw[Ja (by omega)]at this
 simpa using this
theorem Qrv{l:List Job}{id:Int}(hp:∀j,j<l.length->(nth l j).id≠id):Qba l id=none:=by
 unfold Qba
 rw[List.find?_eq_none]
 intro x hx
 obtain⟨j,hj,rfl⟩:=J1 hx
 simpa using hp j hj
def outJ(l:List Job)(id:Int):List Job:=l.filter fun j=>!(j.id==id)
theorem Xm:∀{l:List Job} {i:Nat} (_:(l.map Job.id).Nodup) (_:i<l.length),l.eraseIdx i=outJ l (nth l i).id
 | [],i,_,hi=>absurd hi (Xas _)
 | x::l,0,h,_=>by
  rw[Xaw,XaY]at h
  have e:nth (x::l) 0=x:=rfl
  rw[e,List.eraseIdx_cons_zero,outJ,List.filter_cons_of_neg (by simp),eq_comm,Xcy]
  intro y hy
  have:y.id≠x.id:=fun e=>h.1 (by rw[<-e];exact Xad.2 ⟨y,hy,rfl⟩)
  simpa using this
 | x::l,i+1,h,hi=>by
  rw[Xaw,XaY]at h
  have hi':i<l.length:=by simpa using hi
  have e:nth (x::l) (i+1)=nth l i:=by simp[nth]
  have:x.id≠(nth l i).id:=fun e=>h.1 (by rw[e];exact Xad.2 ⟨_,QO hi',rfl⟩)
  rw[e,List.eraseIdx_cons_succ,Xm h.2 hi',outJ,outJ,List.filter_cons_of_pos (by simpa using this)]
theorem Jm.nodup{l:List Job}(h:Jm l):(l.map Job.id).Nodup:=by
 rw[List.Nodup,Xbg,Xbm]
 intro i k hi hk hik
 have:=h.diff k hk i hik
 rwa [Ja hi,Ja hk]at this
end Go.Proofs.YtihgfennoalocaaGreat
namespace Go.Proofs.YtihgfennoalocaaGreat
open Go Go.RowKit Tryz
section

structure JY where
 id:Int
 at':Int
 nodes:List Int
instance:Inhabited JY:=⟨⟨0,0,[]⟩⟩
def QuJ(h:JY):List D:=[.n .i64 h.id,.n .i64 h.at',.sl (intE h.nodes)]
def QaV(l:List JY):List (List D):=l.map fun h=>[.n .i64 h.id,.n .i64 h.at',.sl (intE h.nodes)]
theorem J0(l:List JY):(QaV l).length=l.length:=by simp[QaV]
theorem Xk(l:List JY)(h:JY):QaV l++[[.n .i64 h.id,.n .i64 h.at',.sl (intE h.nodes)]]=QaV (l++[h]):=by simp[QaV]
noncomputable def QlD (now depth:Int) (q:Jy×List JY×List JY) (j:Job):Jy×List JY×List JY:=
 match earO q.1 j now with
 | none=>q
 | some x=>if now<x.1/\depth<=q.2.2.length then q else match resO q.1 j x.1 (x.1+j.wall) x.2 with
  | none=>q
  | some r'=>if x.1=now then(r',q.2.1++[⟨j.id,x.1,x.2⟩],q.2.2) else(r',q.2.1,q.2.2++[⟨j.id,x.1,x.2⟩])
noncomputable def Vb (r:Jy) (now depth:Int) (l:List Job):Jy×List JY×List JY:=l.foldl (QlD now depth) (r,[],[])
theorem Qa6{r:Jy}{now depth:Int}{l:List Job}{i:Nat}(h:i<l.length):Vb r now depth (l.take (i+1))=QlD now depth (Vb r now depth (l.take i)) (nth l i):=by
 rw[QI h,Vb,XaQ]
 rfl
structure Qpx (r:Jy) (now:Int) (js:List Job) (q:Jy×List JY×List JY):Prop where
 room:Q5 q.1
 topo:q.1.topo=r.topo/\q.1.up=r.up
 len:q.2.1.length+q.2.2.length<=js.length
 sub:(q.2.1.map JY.id).Sublist (js.map Job.id)
 st:∀h∈q.2.1,h.at'=now/\1<=h.nodes.length/\h.nodes.length<=24
 lt:∀h∈q.2.2,1<=h.nodes.length/\h.nodes.length<=24
theorem QlC{r:Jy}{now depth:Int}{js:List Job}{q:Jy×List JY×List JY}{j:Job}(h:Qpx r now js q):Qpx r now (js++[j]) (QlD now depth q j):=by
 have same:Qpx r now (js++[j]) q:=⟨h.room,h.topo,by have:=h.len;rw[Xac];omega,by rw[XaI];exact h.sub.trans (List.sublist_append_left _ _),h.st,h.lt⟩
 unfold QlD
 split
 ·exact same
 ·rename_i x _
  split
  ·exact same
  ·split
   ·exact same
   ·rename_i r' hq
    obtain⟨k1,k2,k3,k4,k5⟩:=Qjw hq
    obtain⟨k6,_⟩:=YA k5
    have hn:1<=x.2.length/\x.2.length<=24:=by have:=k4.num;omega
    have ht:r'.topo=r.topo/\r'.up=r.up:=⟨k2.trans h.topo.1,k3.trans h.topo.2⟩
    have hl:=h.len
    split
    ·rename_i hx
     refine⟨k1,ht,by simp;omega,?_,fun y hy=>?_,h.lt⟩
     ·rw[XaI,XaI]
      exact h.sub.append (XcD _)
     ·rcases Xag.1 hy with hy|hy
      ·exact h.st y hy
      ·obtain rfl:=XaM.1 hy
       exact⟨hx,hn⟩
    ·refine⟨k1,ht,by simp;omega,by rw[XaI];exact h.sub.trans (List.sublist_append_left _ _),h.st,fun y hy=>?_⟩
     rcases Xag.1 hy with hy|hy
     ·exact h.lt y hy
     ·obtain rfl:=XaM.1 hy
      exact hn
theorem Qqx{r:Jy}{now depth:Int}{l:List Job}(h:Q5 r):∀(i:Nat),i<=l.length->Qpx r now (l.take i) (Vb r now depth (l.take i))
 | 0,_=>⟨h,⟨rfl,rfl⟩,by simp[Vb],by simp[Vb],by simp[Vb],by simp[Vb]⟩
 | i+1,hi=>by
  rw[Qa6 (by omega),QI (by omega)]
  exact QlC (Qqx h i (by omega))
def runH(now:Int)(q:List Job×List Run)(h:JY):List Job×List Run:=(outJ q.1 h.id,q.2++[⟨(Qba q.1 h.id).getD default,now,h.nodes⟩])
def runF(now:Int)(qs:List Job)(rs:List Run)(hs:List JY):List Job×List Run:=hs.foldl (runH now) (qs,rs)
theorem Wx{now:Int}{qs:List Job}{rs:List Run}{hs:List JY}{i:Nat}(h:i<hs.length):runF now qs rs (hs.take (i+1))=runH now (runF now qs rs (hs.take i)) (nth hs i):=by
 rw[QI h,runF,XaQ]
 rfl
theorem QqX{l:List Job}{id:Int}{x:Job}:x∈outJ l id↔x∈l/\x.id≠id:=by simp[outJ]
structure StrP (now:Int) (qs:List Job) (rs:List Run) (hs:List JY) (i:Nat):Prop where
 mem:∀x,x∈(runF now qs rs (hs.take i)).1↔x∈qs/\∀j,j<i->(nth hs j).id≠x.id
 sub:(runF now qs rs (hs.take i)).1.Sublist qs
 len:(runF now qs rs (hs.take i)).2.length=rs.length+i
 que:(runF now qs rs (hs.take i)).1.length+i<=qs.length
 new:∀y∈(runF now qs rs (hs.take i)).2,y∈rs\/∃h∈hs.take i,y.at'=now/\y.nodes=h.nodes/\y.job∈qs/\y.job.id=h.id
theorem Qlj{l:List Job}{id:Int}{j:Job}(h:Qba l id=some j):j∈l/\j.id=id:=
 ⟨List.mem_of_find?_eq_some h,by simpa using List.find?_some h⟩
theorem QnK{l:List Job}{id:Int}(h:id∈l.map Job.id):∃j,Qba l id=some j:=by
 obtain⟨x,hx,e⟩:=Xad.1 h
 cases hf:Qba l id with
 | some j=>exact⟨j,rfl⟩
 | none=>
  have:=List.find?_eq_none.1 hf x hx
  simp[e]at this
theorem QpQ{l:List Job}{id:Int}(h:id∈l.map Job.id):(outJ l id).length+1<=l.length:=by
 obtain⟨x,hx,e⟩:=Xad.1 h
 have:=XbY (p:=fun j:Job=>!(j.id==id)) (l:=l)
 have h2:=this.2 ⟨x,hx,by simp[e]⟩
 exact h2
theorem strP{now:Int}{qs:List Job}{rs:List Run}{hs:List JY}(hn:(hs.map JY.id).Nodup)(hsub:∀h∈hs,h.id∈qs.map Job.id):∀(i:Nat),i<=hs.length->StrP now qs rs hs i/\(i<hs.length->(nth hs i).id∈(runF now qs rs (hs.take i)).1.map Job.id)
 | 0,_=>⟨⟨by simp[runF],by simp[runF],by simp[runF],by simp[runF],by simp[runF]⟩,fun h=>by
  simp only[XbN,runF,List.foldl_nil]
  exact hsub _ (QO h)⟩
 | i+1,hi=>by
  obtain⟨h,hh⟩:=strP (now:=now) (rs:=rs) hn hsub i (by omega)
  have hin:=hh (by omega)
  have hmem:∀x,x∈(runF now qs rs (hs.take (i+1))).1↔x∈qs/\∀j,j<i+1->(nth hs j).id≠x.id:=fun x=>by
   rw[Wx (by omega)]
   show x∈outJ _ _↔_
   rw[QqX,h.mem]
   constructor
   ·rintro ⟨⟨h1,h2⟩,h3⟩
    refine⟨h1,fun j hj=>?_⟩
    by_cases e:j=i
    ·subst e;exact fun e=>h3 e.symm
    ·exact h2 j (by omega)
   ·rintro ⟨h1,h2⟩
    exact⟨⟨h1,fun j hj=>h2 j (by omega)⟩,fun e=>h2 i (by omega) e.symm⟩
  refine⟨⟨hmem,?_,?_,?_,?_⟩,fun hi'=>?_⟩
  ·rw[Wx (by omega)]
   exact XaE.trans h.sub
  ·rw[Wx (by omega)]
   have:=h.len
   simp only[runH,Xac,Xar,XaU]
   omega
  ·rw[Wx (by omega)]
   have:=QpQ hin
   have:=h.que
   simp only[runH]
   omega
  ·rw[Wx (by omega)]
   intro y hy
   rcases Xag.1 hy with hy|hy
   ·refine(h.new y hy).imp id fun⟨x,hx,h2⟩=>⟨x,?_,h2⟩
    rw[QI (by omega)]
    exact Xat _ hx
   ·obtain rfl:=XaM.1 hy
    obtain⟨j,hj⟩:=QnK hin
    obtain⟨j1,j2⟩:=Qlj hj
    refine .inr ⟨nth hs i,?_,rfl,rfl,?_,?_⟩
    ·rw[QI (by omega)]
     simp
    ·simp only[hj,XaP]
     exact((h.mem j).1 j1).1
    ·simp only[hj,XaP]
     exact j2
  ·obtain⟨x,hx,e⟩:=Xad.1 (hsub _ (QO hi'))
   refine Xad.2 ⟨x,(hmem x).2 ⟨hx,fun j hj e2=>?_⟩,e⟩
   have h1:(hs.map JY.id)[j]'(by simp;omega)=(hs.map JY.id)[i+1]'(by simpa using hi'):=by
    simp only[Xca]
    rw[<-Ja (by omega),<-Ja hi',e2,e]
   have:=(XcJ (h₀:=by simp;omega) (h₁:=by simpa using hi') hn).1 h1
   omega
noncomputable def WH (s:Qd):List JY×List JY:=match JG s with
 | none=>([],[])
 | some r=>(Vb r s.now s.depth (ordJ s.queue)).2
noncomputable def JH (s:Qd):Qd:={ s with queue:=(runF s.now s.queue s.runs (WH s).1).1,runs:=(runF s.now s.queue s.runs (WH s).1).2 }
theorem Qbb{s:Qd}{r:Jy}(h:JG s=some r):WH s=(Vb r s.now s.depth (ordJ s.queue)).2:=by unfold WH;rw[h]
theorem XI{s:Qd}{r:Jy}(h:JG s=some r):Q5 r:=by
 obtain⟨h1,h2,h3,h4,h5⟩:=W1 h
 assumption
theorem QsF{s:Qd}{r:Jy}(h:JG s=some r):Qpx r s.now (ordJ s.queue) (Vb r s.now s.depth (ordJ s.queue)):=by
 have:=Qqx (now:=s.now) (depth:=s.depth) (l:=ordJ s.queue) (XI h) (ordJ s.queue).length (Xam _)
 rwa [Xap]at this
end
section
attribute [local irreducible] AWp QJ OpOk ACalls ChA QsOk MCalls NCalls EnC PY

theorem Jm.ok{l:List Job}(h:Jm l):∀x∈l,Qu x=true:=fun x hx=>by
 obtain⟨i,hi,rfl⟩:=J1 hx
 exact h.jobs i hi
theorem Qtg{l:List Job}(hq:Jm l):DC Tryz.prog 307 [zL (jobE l)] [zL (jobE (ordJ l))]:=by
 refine zMC func307 fun w0 Z O=>?_
 have hl:=Qk l
 have hql:=hq.len
 have c1:=QtH (l:=l) (dd:=true) hq.ok hq.uni (by omega)
 repeat'(first|(refine zhm fun hb=>?_;try exact zab)|refine zUro ?_|refine zg2 ?_ ?_|(refine km [4] (c1) rfl rfl (fun i hi=>?_);try dsimp only at hi)|intro _|fail)
 show AWp _ _ _ _
 refine Qs 4 rfl ?_
 exact zDR
theorem QsT{l:List Job}(hq:Jm l):DC Tryz.prog 297 [zL (jobE l)] [zL (jobE (insL l))]:=by
 refine zMC func297 fun w0 Z O=>?_
 have hle:=Qk l
 have hql:=hq.len
 have c0:=Qds (l:=l) (by omega)
 rw[show Yk l=true from pB_t.2 hq]at c0
 repeat'(first|(refine zhm fun hb=>?_;try exact zab)|refine zUtp ?_|refine zg2 ?_ ?_|intro _|fail)
 refine Qs 10 rfl ?_
 refine Qa (fun(i:Nat)=>⟨53,[(3,zL (jobE (insL (l.take i)))),(15,zL (jobE l)),(16,zI (l.length:Nat)),(17,zI i)],[]⟩) (fun i=>i<=l.length) (fun i=>l.length-i) 0 (by exact Xab _) ?_ ?_
 ·exact zll
 intro i hi
 have hil:(insL (l.take i)).length=i:=by rw[Qk8,Xai];omega
 by_cases hi':i<l.length
 ·have hst:=Qns hi'
  generalize insL (l.take i)=o at hil hst ⊢
  generalize hx:nth l i=x at hst
  have hol:=Qk o
  repeat'(first|(refine zhm fun hb=>?_;try exact zab)|refine zUtp ?_|refine zg2 ?_ ?_|intro _|fail)
  rw[hx]
  refine Qa (fun(k:Nat)=>⟨53,[(5,.ptr 5 0),(6,.row 21),(7,.d (.b (X4 x (o.take k)).2)),(15,zL (jobE l)),(16,zI (l.length:Nat)),(17,zI i),(22,zL (jobE o)),(23,zI (o.length:Nat)),(24,zI k)],[(5,.box 72 ((jobD x).map AV.d)),(21,.row 72 (jobE (X4 x (o.take k)).1) true)]⟩) (fun k=>k<=o.length) (fun k=>o.length-k) 0 (by exact Xab _) ?_ ?_
  ·exact zll
  intro k hk
  have hrl:=QnZ x (o.take k)
  rw[Qgi hk]at hrl
  have hrl2:=Qk (X4 x (o.take k)).1
  by_cases hk':k<o.length
  ·have hst2:=Ql0 (j:=x) hk'
   unfold insS at hst2
   have c1:=QiA (a:=x) (b:=nth o k)
   cases hd:(X4 x (o.take k)).2 with
   | true=>
    rw[hd,if_neg (by simp)]at hst2
    repeat'(first|(refine zhm fun hb=>?_;try exact zab)|refine zUtp ?_|refine zg2 ?_ ?_|intro _|fail)
    refine⟨k+1,by omega,by omega,?_⟩
    refine⟨rfl,?_,?_,rfl⟩
    repeat'(first|exact ze3|refine ze2 ?_ ?_|refine ze4 ?_|exact ze5|fail)
    all_goals exact zp (by first|rfl|(rw[hst2];exact Yw _ _)|rw[hst2])
   | false=>
    cases hb0:befB x (nth o k) with
    | true=>
     rw[hd,if_pos ⟨rfl,hb0⟩]at hst2
     rw[hb0]at c1
     have hl2:(jobE (X4 x (o.take k)).1++[jobD x]).length=(X4 x (o.take k)).1.length+1:=by simp[jobE]
     repeat'(first|(refine zhm fun hb=>?_;try exact zab)|refine zUtp ?_|refine zg2 ?_ ?_|intro _|fail)
     refine⟨k+1,by omega,by omega,?_⟩
     refine⟨rfl,?_,?_,rfl⟩
     repeat'(first|exact ze3|refine ze2 ?_ ?_|refine ze4 ?_|exact ze5|fail)
     all_goals exact zp (by first|rfl|(rw[hst2];simp[jobE];done)|rw[hst2])
    | false=>
     rw[hd,if_neg (fun h=>by rw[hb0]at h;cases h.2)]at hst2
     rw[hb0]at c1
     repeat'(first|(refine zhm fun hb=>?_;try exact zab)|refine zUtp ?_|refine zg2 ?_ ?_|intro _|fail)
     refine⟨k+1,by omega,by omega,?_⟩
     refine⟨rfl,?_,?_,rfl⟩
     repeat'(first|exact ze3|refine ze2 ?_ ?_|refine ze4 ?_|exact ze5|fail)
     all_goals exact zp (by first|rfl|(rw[hst2];exact Yw _ _)|rw[hst2])
  ·obtain rfl:k=o.length:=by omega
   rw[Xap]at *
   have he:=QpN (j:=x) (l:=o)
   cases hd:(X4 x o).2 with
   | true=>
    rw[hd,if_pos rfl]at he
    repeat'(first|(refine zhm fun hb=>?_;try exact zab)|(refine Qi 19 21 rfl ?_)|refine zUtp ?_|refine zg2 ?_ ?_|intro _|fail)
    refine⟨i+1,by omega,by omega,?_⟩
    refine zag ?_;exact zp (by rw[hst,he])
   | false=>
    rw[hd,if_neg (by simp)]at he
    repeat'(first|(refine zhm fun hb=>?_;try exact zab)|(refine Qi 19 21 rfl ?_)|refine zUtp ?_|refine zg2 ?_ ?_|intro _|fail)
    refine⟨i+1,by omega,by omega,?_⟩
    refine zag ?_;exact zp (by(rw[hst,<-he];exact Yw _ _))
 ·obtain rfl:i=l.length:=by omega
  rw[Xap]at *
  repeat'(first|(refine zhm fun hb=>?_;try exact zab)|refine zUrp ?_|refine zg2 ?_ ?_|intro _|fail)
  exact zDR
theorem Qad{l:List Job}{id:Int}(hl:l.length<=1000000000):zAc 232 [zL (jobE l),zI id] [jobA ((Qba l id).getD default),.d (.b (Qba l id).isSome)] []:=by
 refine zAC func232 fun w0 Z=>?_
 have hle:=Qk l
 repeat'(first|(refine zhm fun hb=>?_;try exact zab)|refine zUtp ?_|refine zg2 ?_ ?_|intro _|fail)
 refine Qa (fun(i:Nat)=>⟨21,[(1,zI id),(4,.ptr 4 0),(8,zL (jobE l)),(9,zI (l.length:Nat)),(10,zI i)],[(4,.box 72 ((jobD default).map AV.d))]⟩) (fun i=>i<=l.length/\∀j,j<i->(nth l j).id≠id) (fun i=>l.length-i) 0 (by exact⟨Xab _,fun j hj=>absurd hj (Xas _)⟩) ?_ ?_
 ·exact zll
 rintro i ⟨hi,hp⟩
 by_cases hi':i<l.length
 ·repeat'(first|(refine zhm fun hb=>?_;try exact zab)|refine zUtp ?_|refine zg2 ?_ ?_|intro _|fail)
  ·rw[Qk7 hi' (by assumption) hp]
   exact zrr
  ·refine⟨i+1,⟨by omega,fun j hj=>?_⟩,by omega,?_⟩
   ·by_cases e:j=i
    ·subst e;assumption
    ·exact hp j (by omega)
   exact zll
 ·rw[Qrv fun j hj=>hp j (by omega)]
  repeat'(first|(refine zhm fun hb=>?_;try exact zab)|refine zUtp ?_|refine zg2 ?_ ?_|intro _|fail)
  exact zrr
theorem Qnb{l:List Job}{id:Int}{i:Nat}(h:i<l.length):outJ (l.take (i+1)) id=if(nth l i).id=id then outJ (l.take i) id else outJ (l.take i) id++[nth l i]:=by
 rw[QI h,outJ,Xa9]
 split
 ·rename_i e;simp[outJ,e]
 ·rename_i e;simp[outJ,e]
theorem Qse(l:List Job)(id:Int):(outJ l id).length<=l.length:=Xa1 _ _
theorem Qka{l:List Job}{id:Int}(hl:l.length<=1000000000):DC Tryz.prog 235 [zL (jobE l),zI id] [zL (jobE (outJ l id))]:=by
 refine zMC func235 fun w0 Z O=>?_
 have hle:=Qk l
 repeat'(first|(refine zhm fun hb=>?_;try exact zab)|refine zUtp ?_|refine zg2 ?_ ?_|intro _|fail)
 refine Qa (fun(i:Nat)=>⟨25,[(1,zI id),(5,.row 8),(9,zL (jobE l)),(10,zI (l.length:Nat)),(11,zI i)],[(8,.row 72 (jobE (outJ (l.take i) id)) true)]⟩) (fun i=>i<=l.length) (fun i=>l.length-i) 0 (by exact Xab _) ?_ ?_
 ·exact zll
 intro i hi
 have hol:=Qse (l.take i) id
 rw[Qgi hi]at hol
 have hol2:=Qk (outJ (l.take i) id)
 by_cases hi':i<l.length
 ·have hst:=Qnb (id:=id) hi'
  by_cases he:(nth l i).id=id
  ·rw[if_pos he]at hst
   repeat'(first|(refine zhm fun hb=>?_;try exact zab)|refine zUtp ?_|refine zg2 ?_ ?_|intro _|fail)
   refine⟨i+1,by omega,by omega,?_⟩
   refine zag ?_;exact zp (by rw[hst])
  ·rw[if_neg he]at hst
   repeat'(first|(refine zhm fun hb=>?_;try exact zab)|refine zUtp ?_|refine zg2 ?_ ?_|intro _|fail)
   refine⟨i+1,by omega,by omega,?_⟩
   refine zag ?_;exact zp (by(rw[hst];exact Yw _ _))
 ·obtain rfl:i=l.length:=by omega
  rw[Xap]at *
  repeat'(first|(refine zhm fun hb=>?_;try exact zab)|refine zUrp ?_|refine zg2 ?_ ?_|intro _|fail)
  show AWp _ _ _ _
  refine Qs 8 rfl ?_
  exact zDR
theorem QqS{id:Int}{k:Job}:zAc 282 [jobA k,.pd [.n .i64 id] 0] [.d (.b (k.id==id))] []:=by
 refine zAC func282 fun w0 Z=>?_
 repeat'(first|refine zUco ?_|(refine Hb.mk (fun hb=>?_);(first|rw[decide_eq_true_eq]at hb|rw[decide_eq_false_iff_not]at hb|skip);(first|(exfalso;omega)|(exact absurd rfl hb)|skip))|refine zg2 ?_ ?_|intro _|fail)
 exact zrr
theorem QiH{l:List Job}{id:Int}(hl:l.length<=1000000000):zAc 250 [zL (jobE l),zI id] [zI (idxF l fun j=>j.id==id)] []:=by
 refine zAC func250 fun w0 Z=>?_
 repeat'(first|(refine zhm fun hb=>?_;try exact zab)|refine zUto ?_|refine zg2 ?_ ?_|refine kc (QdV (l:=l) (p:=fun j=>j.id==id) (g:=282) (ds:=[.n .i64 id]) hl (fun j=>QqS)) rfl rfl ?_|intro _|fail)
 exact zrr

theorem Qte{r:Jy}{j:Job}{a b:Int}{l:List Int}(hr:Q5 r)(hl:l.length<=1000000000):MCalls Tryz.prog 241 [Y7 r,jobA j,zI a,zI b,.row 1000000,.clo 242 []] [(1000000,.row 3 (intE l) true)] (fun _:Unit=>True) (fun _=>XW (resO r j a b l)) (fun _=>[(1000000,.row 3 (intE l) true)]) (fun _=>[]):=by
 refine Ji tt func241 rfl rfl rfl ⟨.inl rfl,trivial⟩ (fun _ _=>⟨⟨⟨rfl,rfl,rfl⟩,trivial⟩,.inl rfl,trivial⟩) (fun w0 Z O=>?_)
 have hs:=hr.small
 have c1:=Qcz hr
 have c2:=ZM (j:=j)
 have c3:=QaK (j:=j) hr.topo hl
 cases h2:Qu j with
 | false=>
  rw[h2]at c2
  rw[QcN h2]
  repeat'(first|(refine zhm fun hb=>?_;try exact zab)|refine Q7 ?_|(apply zch;exact zcg)|exact zhk|refine zg3 ?_ ?_|intro _|fail)
  exact zDR
 | true=>
  rw[h2]at c2
  cases h3:Zn r.topo j l with
  | false=>
   rw[h3]at c3
   rw[Qdw h3]
   repeat'(first|(refine zhm fun hb=>?_;try exact zab)|refine Q7 ?_|(apply zch;exact zcg)|exact zhk|refine zg3 ?_ ?_|intro _|fail)
   exact zDR
  | true=>
   rw[h3]at c3
   rw[Qnw hr h2 h3]
   have hd:=pB_t.1 h3
   have hjn:1<=j.nodes:=by
    simp only[Qu,Xaf,Yr]at h2
    omega
   have hnum:=hd.num
   have hin0:=hd.nodes 0 (by omega)
   have hpn:=hr.num
   have hil:=Qb l
   repeat'(first|(refine zhm fun hb=>?_;try exact zab)|refine Qe ?_|(apply zch;exact zcg)|exact zhk|refine zg3 ?_ ?_|refine kmu (Qe2 hr (by omega)) ?_|intro _|fail)
   refine Qa (fun(k:Nat×List (List Pt))=>⟨86,[(2,zI a),(3,zI b),(5,.clo 242 []),(7,.ptr 7 0),(12,.ptr 12 0),(14,.ptr 14 0),(40,.row 1000000),(41,zI (l.length:Nat)),(42,zI k.1)],[(1000000,.row 3 (intE l) true),(7,.box 72 ((jobD j).map AV.d)),(12,.box 209 [.nil,.nil,.nil,.nil,.nil]),(14,.box 209 [zL (intE r.topo.parents),zL (Qz r.topo.nodes),zL (Qq r.up),.row 39,zL (ptE r.lics)]),(39,.row 207 (QZ k.2) false)]⟩) (fun k=>QtS r a b j.need l k.1 k.2) (fun k=>l.length-k.1) (0,r.profs) (by exact⟨Xab _,rfl,hr.profs,rfl⟩) ?_ ?_
   ·exact zll
   ·rintro ⟨n,ps⟩ ht
    dsimp only at ht ⊢
    have hle:=ht.le
    have hlen:=ht.len
    have hpl:=Qy ps
    by_cases hn':n<l.length
    ·have hin:=hd.nodes n hn'
     have hok:=ht.ok (nth l n).toNat (by omega)
     have hokl:=hok.len
     have c4:=Xx (l:=nth ps (nth l n).toNat) (a:=a) (b:=b) (v:=j.need) (by omega)
     cases hq:VB (nth ps (nth l n).toNat) a b j.need with
     | none=>
      rw[hq]at c4
      rw[QdA ht hn' hq]
      repeat'(first|(refine zhm fun hb=>?_;try exact zab)|refine Q7 ?_|(apply zch;exact zcg)|exact zhk|refine zg3 ?_ ?_|(refine kw [] (c4) rfl rfl rfl rfl rfl (fun i hi=>?_);try dsimp only at hi)|intro _|fail)
      exact zDR
     | some q=>
      rw[hq]at c4
      have hst:=QdK ht hn' (by omega) hq
      repeat'(first|(refine zhm fun hb=>?_;try exact zab)|refine Q7 ?_|(apply zch;exact zcg)|exact zhk|refine zg3 ?_ ?_|(refine kw [] (c4) rfl rfl rfl rfl rfl (fun i hi=>?_);try dsimp only at hi)|intro _|fail)
      refine⟨(n+1,ps.set (nth l n).toNat q),hst,by dsimp only;omega,?_⟩
      refine zag ?_;exact zp (Qa4 _ _ _)
    ·rw[Qf4 ht hn']
     have hll:=hr.lics.len
     have c4:=Xx (l:=r.lics) (a:=a) (b:=b) (v:=j.lic) (by omega)
     cases hq:VB r.lics a b j.lic with
     | none=>
      rw[hq]at c4
      repeat'(first|(refine zhm fun hb=>?_;try exact zab)|refine Q7 ?_|(apply zch;exact zcg)|exact zhk|refine zg3 ?_ ?_|(refine kw [] (c4) rfl rfl rfl rfl rfl (fun i hi=>?_);try dsimp only at hi)|intro _|fail)
      exact zDR
     | some q=>
      rw[hq]at c4
      repeat'(first|(refine zhm fun hb=>?_;try exact zab)|refine Q7 ?_|(apply zch;exact zcg)|exact zhk|refine zg3 ?_ ?_|(refine kw [] (c4) rfl rfl rfl rfl rfl (fun i hi=>?_);try dsimp only at hi)|intro _|fail)
      show AWp _ _ _ _
      refine Qs 39 rfl ?_
      exact zDR
theorem QnI{r:Jy}{j:Job}{a:Int}{l:List Int}(hr:Q5 r)(hj:Qu j=true)(hl:l.length<=1000000000)(ha:0<=a/\a<=1000000000):MCalls Tryz.prog 308 [Y7 r,jobA j,zI a,.row 1000000] [(1000000,.row 3 (intE l) true)] (fun _:Unit=>True) (fun _=>XW (resO r j a (a+j.wall) l)) (fun _=>[(1000000,.row 3 (intE l) true)]) (fun _=>[]):=by
 refine Ji tt func308 rfl rfl rfl ⟨.inl rfl,trivial⟩ (fun _ _=>⟨⟨⟨rfl,rfl,rfl⟩,trivial⟩,.inl rfl,trivial⟩) (fun w0 Z O=>?_)
 obtain⟨_,j2⟩:=YA hj
 have c2:=Wz (x:=a)
 rw[show inB a 0 1000000000=true from Yr.mpr ha]at c2
 repeat'(first|(refine zhm fun hb=>?_;try exact zab)|refine zUrn ?_|refine zg2 ?_ ?_|(refine km [1000000] (Qte (j:=j) (a:=a) (b:=a+j.wall) hr hl) rfl rfl (fun i hi=>?_);try dsimp only at hi)|intro _|fail)
 exact zDR

theorem QuF{r:Jy}{now depth:Int}{l:List Job}(hr:Q5 r)(hq:Jm l)(hnw:0<=now/\now<=1000000000)(hd:0<=depth/\depth<=60):DC Tryz.prog 270 [Y7 r,zI now,zL (jobE l),zI depth] [zL (QaV (Vb r now depth (ordJ l)).2.1),zL (QaV (Vb r now depth (ordJ l)).2.2),.d (.b true)]:=by
  rw[Qqb hq.uni]
  refine zMC func270 fun w0 Z O=>?_
  have hql:=hq.len
  have c1:=Qcm hr
  have c2:=Qds (l:=l) (by omega)
  rw[show Yk l=true from pB_t.2 hq]at c2
  have c3:=Y1 (x:=now)
  rw[show inB now 0 1000000000=true from Yr.mpr hnw]at c3
  have c4:=QsT hq
  have hjm:∀x∈insL l,Qu x=true:=fun x hx=>hq.ok x ((QaA l).mem_iff.1 hx)
  have hjl:=Qk8 l
  generalize insL l=js at c4 hjm hjl ⊢
  have hle:=Qk js
  repeat'(first|(refine zhm fun hb=>?_;try exact zab)|refine zUtp ?_|refine zg2 ?_ ?_|refine kmu c4 ?_|intro _|fail)
  refine Wm 41 rfl ?_
  refine Wm 42 rfl ?_
  refine Qa (fun(i:Nat)=>⟨104,[(1,zI now),(3,zI depth),(4,.ptr 4 0),(11,.row 41),(12,.row 42),(44,zL (jobE js)),(45,zI (js.length:Nat)),(46,zI i)],[(4,.box 209 (Qa9 (Vb r now depth (js.take i)).1)),(41,.row 271 (QaV (Vb r now depth (js.take i)).2.1) false),(42,.row 271 (QaV (Vb r now depth (js.take i)).2.2) false)]⟩) (fun i=>i<=js.length) (fun i=>js.length-i) 0 (by exact Xab _) ?_ ?_
  · exact zll
  intro n hi
  have hI:=Qqx (r:=r) (now:=now) (depth:=depth) (l:=js) hr n hi
  by_cases hi':n<js.length
  · have hst:=Qa6 (r:=r) (now:=now) (depth:=depth) hi'
    have hj:=hjm _ (QO hi')
    generalize Vb r now depth (js.take n)=q at hI hst ⊢
    have hl1:=J0 q.2.1
    have hl2:=J0 q.2.2
    have hlq:=hI.len
    rw[Xai]at hlq
    unfold QlD at hst
    cases he:earO q.1 (nth js n) now with
    | none=>
      have c5:=Qbj (j:=nth js n) (a:=now) hI.room hj hnw
      rw[he]at c5 hst
      dsimp only at hst
      repeat'(first|(refine zhm fun hb=>?_;try exact zab)|refine zUtp ?_|refine zg2 ?_ ?_|refine kmu c5 ?_|intro _|fail)
      refine⟨n+1,by omega,by omega,?_⟩
      refine⟨rfl,?_,?_,rfl⟩
      repeat'(first|exact ze3|refine ze2 ?_ ?_|refine ze4 ?_|exact ze5|fail)
      all_goals exact zp (by first|rfl|rw[hst])
    | some x=>
      have c5:DC Tryz.prog 269 [Y7 q.1,jobA (nth js n),zI now] [zI x.1,zL (intE x.2),.d (.b true)]:=by
        have h:=Qbj (j:=nth js n) (a:=now) hI.room hj hnw
        rw[he]at h
        exact h
      obtain⟨hx1,hx2⟩:=Qhd hI.room hj hnw he
      rw[he]at hst
      dsimp only at hst
      by_cases hc:now<x.1/\depth<=q.2.2.length
      · rw[if_pos hc]at hst
        obtain⟨hc1,hc2⟩:=hc
        repeat'(first|(refine zhm fun hb=>?_;try exact zab)|refine zUtp ?_|refine zg2 ?_ ?_|refine kmu c5 ?_|intro _|fail)
        refine⟨n+1,by omega,by omega,?_⟩
        refine⟨rfl,?_,?_,rfl⟩
        repeat'(first|exact ze3|refine ze2 ?_ ?_|refine ze4 ?_|exact ze5|fail)
        all_goals exact zp (by first|rfl|rw[hst])
      · rw[if_neg hc]at hst
        have c6:=Qc9 (j:=nth js n) (a:=x.1) (l:=x.2) hI.room (by omega) (by omega)
        cases hr':resO q.1 (nth js n) x.1 (x.1+(nth js n).wall) x.2 with
        | none=>
          rw[hr']at c6 hst
          dsimp only at hst
          repeat'(first|(refine zhm fun hb=>?_;try exact zab)|refine zUtp ?_|refine zg2 ?_ ?_|refine kmu c5 ?_|refine kmu c6 ?_|intro _|fail)
          all_goals first
            | (exfalso;omega)
            | (refine⟨n+1,by omega,by omega,?_⟩
               refine⟨rfl,?_,?_,rfl⟩
               repeat'(first|exact ze3|refine ze2 ?_ ?_|refine ze4 ?_|exact ze5|fail)
               all_goals exact zp (by first|rfl|rw[hst]))
        | some r'=>
          rw[hr']at c6 hst
          dsimp only at hst
          by_cases ht:x.1=now
          · rw[if_pos ht]at hst
            repeat'(first|(refine zhm fun hb=>?_;try exact zab)|refine zUt ?_|refine zg2 ?_ ?_|(apply YE;first|(fail))|refine zln fun _=>?_|refine zop ?_|refine kmu c5 ?_|refine kmu c6 ?_|fail)
            all_goals first
              | (exfalso;omega)
              | (refine⟨n+1,by omega,by omega,?_⟩
                 refine⟨rfl,?_,?_,rfl⟩
                 repeat'(first|exact ze3|refine ze2 ?_ ?_|refine ze4 ?_|exact ze5|fail)
                 all_goals exact zp (by first|rfl|(rw[hst];exact Xk _ ⟨_,_,_⟩)|(rw[hst];done)|(rw[hst];rfl)))
          · rw[if_neg ht]at hst
            repeat'(first|(refine zhm fun hb=>?_;try exact zab)|refine zUt ?_|refine zg2 ?_ ?_|(apply YE;first|(fail))|refine zln fun _=>?_|refine zop ?_|refine kmu c5 ?_|refine kmu c6 ?_|fail)
            all_goals first
              | (exfalso;omega)
              | (refine⟨n+1,by omega,by omega,?_⟩
                 refine⟨rfl,?_,?_,rfl⟩
                 repeat'(first|exact ze3|refine ze2 ?_ ?_|refine ze4 ?_|exact ze5|fail)
                 all_goals exact zp (by first|rfl|(rw[hst];exact Xk _ ⟨_,_,_⟩)|(rw[hst];done)|(rw[hst];rfl)))
  · obtain rfl:n=js.length:=by omega
    rw[Xap]at *
    repeat'(first|(refine zhm fun hb=>?_;try exact zab)|refine zUrp ?_|refine zg2 ?_ ?_|intro _|fail)
    show AWp _ _ _ _
    refine Qs 41 rfl ?_
    show AWp _ _ _ _
    refine Qs 42 rfl ?_
    exact zDR
theorem QuC{r:Jy}{now depth:Int}{l:List Job}(hr:Q5 r)(hq:Jm l)(hnw:0<=now/\now<=1000000000)(hd:0<=depth/\depth<=60):MCalls Tryz.prog 289 [Y7 r,zI now,zL (jobE l),zI depth] [] (fun _:Unit=>True) (fun _=>[.row 0,.row 1,.d (.b true)]) (fun _=>[]) (fun _=>[(0,.row 271 (QaV (Vb r now depth (ordJ l)).2.1) true),(1,.row 271 (QaV (Vb r now depth (ordJ l)).2.2) true)]):=by
  refine zMC func289 fun w0 Z O=>?_
  have hql:=hq.len
  have c1:=Qcz hr
  have c2:=Qg6 (l:=l) (by omega)
  rw[show Yk l=true from pB_t.2 hq]at c2
  have c3:=Wz (x:=now)
  rw[show inB now 0 1000000000=true from Yr.mpr hnw]at c3
  have c4:=Qtg hq
  have hjm:∀x∈ordJ l,Qu x=true:=fun x hx=>hq.ok x (Qko.1 hx)
  have hjl:=YU l
  generalize ordJ l=js at c4 hjm hjl ⊢
  have hle:=Qk js
  repeat'(first|(refine zhm fun hb=>?_;try exact zab)|refine zUtp ?_|refine zg2 ?_ ?_|refine zqj QX ?_|refine kmu c4 ?_|intro _|fail)
  refine Qa (fun(i:Nat)=>⟨99,[(1,zI now),(3,zI depth),(4,.ptr 4 0),(11,.row 39),(12,.row 40),(42,zL (jobE js)),(43,zI (js.length:Nat)),(44,zI i)],[(4,.box 209 (Qa9 (Vb r now depth (js.take i)).1)),(39,.row 271 (QaV (Vb r now depth (js.take i)).2.1) true),(40,.row 271 (QaV (Vb r now depth (js.take i)).2.2) true)]⟩) (fun i=>i<=js.length) (fun i=>js.length-i) 0 (by exact Xab _) ?_ ?_
  · exact zll
  intro n hi
  have hI:=Qqx (r:=r) (now:=now) (depth:=depth) (l:=js) hr n hi
  by_cases hi':n<js.length
  · have hst:=Qa6 (r:=r) (now:=now) (depth:=depth) hi'
    have hj:=hjm _ (QO hi')
    generalize Vb r now depth (js.take n)=q at hI hst ⊢
    have hl1:=J0 q.2.1
    have hl2:=J0 q.2.2
    have hlq:=hI.len
    rw[Xai]at hlq
    unfold QlD at hst
    have c5:=QeY (j:=nth js n) (a:=now) hI.room hj hnw
    cases he:earO q.1 (nth js n) now with
    | none=>
      rw[he]at c5 hst
      dsimp only at hst
      repeat'(first|(refine zhm fun hb=>?_;try exact zab)|refine zUtp ?_|refine zg2 ?_ ?_|refine kmu c5 ?_|intro _|fail)
      refine⟨n+1,by omega,by omega,?_⟩
      refine⟨rfl,?_,?_,rfl⟩
      repeat'(first|exact ze3|refine ze2 ?_ ?_|refine ze4 ?_|exact ze5|fail)
      all_goals exact zp (by first|rfl|rw[hst])
    | some x=>
      rw[he]at c5
      obtain⟨hx1,hx2⟩:=Qhd hI.room hj hnw he
      rw[he]at hst
      dsimp only at hst
      by_cases hc:now<x.1/\depth<=q.2.2.length
      · rw[if_pos hc]at hst
        obtain⟨hc1,hc2⟩:=hc
        repeat'(first|(refine zhm fun hb=>?_;try exact zab)|refine zUtp ?_|refine zg2 ?_ ?_|refine kmu c5 ?_|intro _|fail)
        refine⟨n+1,by omega,by omega,?_⟩
        refine⟨rfl,?_,?_,rfl⟩
        repeat'(first|exact ze3|refine ze2 ?_ ?_|refine ze4 ?_|exact ze5|fail)
        all_goals exact zp (by first|rfl|rw[hst])
      · rw[if_neg hc]at hst
        have c6:=QnI (j:=nth js n) (a:=x.1) (l:=x.2) hI.room hj (by omega) (by omega)
        cases hr':resO q.1 (nth js n) x.1 (x.1+(nth js n).wall) x.2 with
        | none=>
          rw[hr']at c6 hst
          dsimp only at hst
          repeat'(first|(refine zhm fun hb=>?_;try exact zab)|refine zUtp ?_|refine zg2 ?_ ?_|refine kmu c5 ?_|(refine km [52] (c6) rfl rfl (fun i hi=>?_);try dsimp only at hi)|intro _|fail)
          all_goals first
            | (exfalso;omega)
            | (refine⟨n+1,by omega,by omega,?_⟩
               refine⟨rfl,?_,?_,rfl⟩
               repeat'(first|exact ze3|refine ze2 ?_ ?_|refine ze4 ?_|exact ze5|fail)
               all_goals exact zp (by first|rfl|rw[hst]))
        | some r'=>
          rw[hr']at c6 hst
          dsimp only at hst
          by_cases ht:x.1=now
          · rw[if_pos ht]at hst
            repeat'(first|(refine zhm fun hb=>?_;try exact zab)|refine zUt ?_|refine zg2 ?_ ?_|(apply YE;first|(refine Vd rfl rfl rfl ⟨rfl,rfl,rfl⟩ rfl rfl rfl rfl rfl rfl rfl rfl (QN fun _=>rfl) rfl rfl rfl rfl rfl ?_)|(refine JX rfl rfl rfl rfl rfl rfl rfl rfl ⟨rfl,rfl,rfl⟩ (J0 _) (rfl:_=1) (by omega) rfl rfl ?_))|refine zln fun _=>?_|refine zop ?_|refine kmu c5 ?_|(refine km [52] (c6) rfl rfl (fun i hi=>?_);try dsimp only at hi)|fail)
            all_goals first
              | (exfalso;omega)
              | (refine⟨n+1,by omega,by omega,?_⟩
                 refine⟨rfl,?_,?_,rfl⟩
                 repeat'(first|exact ze3|refine ze2 ?_ ?_|refine ze4 ?_|exact ze5|fail)
                 all_goals exact zp (by first|rfl|(rw[hst];exact Xk _ ⟨_,_,_⟩)|(rw[hst];done)|(rw[hst];rfl)))
          · rw[if_neg ht]at hst
            repeat'(first|(refine zhm fun hb=>?_;try exact zab)|refine zUt ?_|refine zg2 ?_ ?_|(apply YE;first|(refine Vd rfl rfl rfl ⟨rfl,rfl,rfl⟩ rfl rfl rfl rfl rfl rfl rfl rfl (QN fun _=>rfl) rfl rfl rfl rfl rfl ?_)|(refine JX rfl rfl rfl rfl rfl rfl rfl rfl ⟨rfl,rfl,rfl⟩ (J0 _) (rfl:_=1) (by omega) rfl rfl ?_))|refine zln fun _=>?_|refine zop ?_|refine kmu c5 ?_|(refine km [52] (c6) rfl rfl (fun i hi=>?_);try dsimp only at hi)|fail)
            all_goals first
              | (exfalso;omega)
              | (refine⟨n+1,by omega,by omega,?_⟩
                 refine⟨rfl,?_,?_,rfl⟩
                 repeat'(first|exact ze3|refine ze2 ?_ ?_|refine ze4 ?_|exact ze5|fail)
                 all_goals exact zp (by first|rfl|(rw[hst];exact Xk _ ⟨_,_,_⟩)|(rw[hst];done)|(rw[hst];rfl)))
  · obtain rfl:n=js.length:=by omega
    rw[Xap]at *
    repeat'(first|(refine zhm fun hb=>?_;try exact zab)|refine zUrp ?_|refine zg2 ?_ ?_|intro _|fail)
    show AWp _ _ _ _
    refine QD ?_
    apply Qt
    exact zm () [39,40] trivial zae zae zae
end
end Go.Proofs.YtihgfennoalocaaGreat
