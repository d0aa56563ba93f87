/-
  The library's sort by a function, at jobs: the order of the queue.
-/
import Derived.Test.YtkdniahincpmaaaGreatQB15
import Derived.Test.YtkdniahincpmaaaGreatQB20
set_option maxRecDepth 100000
set_option maxHeartbeats 16000000
namespace Go.Proofs.YtkdniahincpmaaaGreat
open Go Go.RowKit Go.Sort Go.Shelf

def cfJ(x y:Job):Int:=if x.prio≠y.prio then y.prio-x.prio else x.id-y.id
@[reducible] def jobV (j:Job):List Value:=[.int .i64 j.id,.int .i64 j.prio,.int .i64 j.nodes,.int .i64 j.need.a,.int .i64 j.need.b,.int .i64 j.need.c,.int .i64 j.lic.a,.int .i64 j.lic.b,.int .i64 j.lic.c,.int .i64 j.wall,.int .i64 j.level]
theorem QiI{x y:Job}(W:World)(hx:(1<=x.id/\x.id<=999)/\0<=x.prio/\x.prio<=999)(hy:(1<=y.id/\y.id<=999)/\0<=y.prio/\y.prio<=999) :
  Calls Tryz.prog 260 #[.agg (jobV x).toArray,.agg (jobV y).toArray] W fun e w'=>e=.returned (.int .i64 (cfJ x y))/\∃q os',w'=grow (W.drewN q) os':=by
 obtain⟨⟨x1,x2⟩,x3,x4⟩:=hx
 obtain⟨⟨y1,y2⟩,y3,y4⟩:=hy
 unfold cfJ
 by_cases a:x.prio=y.prio
 ·rw[if_neg (fun h=>h a)]
  go_enter Tryz.func260,Tryz.ntmps260
  go_wp2
  go_ret
  exact⟨rfl,0,_,by rw[alloc_eq_grow,alloc_eq_grow,grow_grow];rfl⟩
 ·rw[if_pos a]
  go_enter Tryz.func260,Tryz.ntmps260
  go_wp2
  go_ret
  exact⟨rfl,0,_,by rw[alloc_eq_grow,alloc_eq_grow,grow_grow];rfl⟩
theorem QeX{α β:Type}{enc:α->List β}{k:Nat}(hk:∀x,(enc x).length=k)(hk0:0<k):∀(d:List α) (t:Nat),(d.flatMap enc)[t]?=(d[t / k]?).bind fun x=>(enc x)[t % k]?
 | [],t=>by simp
 | x::d,t=>by
  rw[Xbq]
  by_cases h:t<k
  ·rw[List.getElem?_append_left (by rw[hk];exact h),Xcr h,Xcs h]
   rfl
  ·rw[List.getElem?_append_right (by rw[hk];omega),hk,QeX hk hk0 d (t-k)]
   have e1:t / k=(t-k) / k+1:=by rw[Nat.div_eq_sub_div hk0 (by omega)]
   have e2:t % k=(t-k) % k:=Nat.mod_eq_sub_mod (by omega)
   rw[e1,e2]
   rfl
theorem QaG{α β:Type}{enc:α->List β}{k:Nat}(hk:∀x,(enc x).length=k):∀(d:List α),(d.flatMap enc).length=d.length*k
 | []=>by simp
 | x::d=>by rw[Xbq,Xab,hk,QaG hk d,Xap,XaU];omega
theorem Qnj{α:Type}[Inhabited α]{enc:α->List Value}{k:Nat}(hk:∀x,(enc x).length=k)(hk0:0<k)(d:List α):flatK enc k d.toArray=(d.flatMap enc).toArray:=by
 apply Array.ext'
 refine List.ext_getElem? fun t=>?_
 have c:=QeX hk hk0 d t
 have hl:=QaG hk d
 by_cases h:t<d.length*k
 ·have a:t / k<d.length:=Nat.div_lt_of_lt_mul (by rw[Xcn];exact h)
  have b:t % k<(enc d[t / k]).length:=by rw[hk];exact Nat.mod_lt _ hk0
  rw[List.toList_toArray,c,List.getElem?_eq_getElem a,Xbc,List.getElem?_eq_getElem b]
  simp only[flatK,Array.toList_map,List.getElem?_map,Array.getElem?_toList,XbG]
  rw[Array.getElem?_eq_getElem (by simpa using h)]
  simp[a,b]
 ·rw[List.getElem?_eq_none (show(flatK enc k d.toArray).toList.length<=t by rw[Xax,size_flatK];simpa using Xct h),List.toList_toArray,List.getElem?_eq_none (by omega)]
theorem QiJ{w:World}:∀{xs:List Int} {us:List Value} {F:List Nat},repL w (xs.map (D.n .i64)) us F->us=xs.map (Value.int .i64)
 | [],_,_,h=>h.1
 | x::xs,us,F,h=>by
  obtain⟨u,us',F1,F2,rfl,_,h1,h2⟩:=h
  obtain⟨rfl,_⟩:=h1
  rw[QiJ h2]
  rfl
theorem Qgd(w:World):∀(xs:List Int),repL w (xs.map (D.n .i64)) (xs.map (Value.int .i64)) []
 | []=>⟨rfl,rfl⟩
 | _::xs=>⟨_,_,[],[],rfl,rfl,⟨rfl,rfl⟩,Qgd w xs⟩
def jobI(j:Job):List Int:=[j.id,j.prio,j.nodes,j.need.a,j.need.b,j.need.c,j.lic.a,j.lic.b,j.lic.c,j.wall,j.level]
theorem QlL{w:World}:∀{l:List Job} {us:List Value} {F:List Nat},repE w (jobE l) us F->us=l.flatMap jobV
 | [],_,_,h=>h.1
 | x::l,us,F,h=>by
  obtain⟨u1,u2,F1,F2,rfl,_,h1,h2⟩:=h
  rw[QlL h2,show u1=jobV x from QiJ (xs:=jobI x) h1]
  rfl
theorem QhS(w:World):∀(l:List Job),repE w (jobE l) (l.flatMap jobV) []
 | []=>⟨rfl,rfl⟩
 | x::l=>⟨jobV x,l.flatMap jobV,[],[],rfl,rfl,Qgd w (jobI x),QhS w l⟩
theorem Qew{w:World}{g n:Nat}{cur:Array Value}{e:TypeId}{vs:List Value}(hb:w.heap[g]?=some (.cells cur e (0,0)))(hn:n=vs.length)(ht:cur.toList.take n=vs):Holds id w g 0 vs.toArray:=by
 intro j c
 have a:j<vs.length:=by simpa using c
 refine⟨?_,by simp[World.frozen?,hb]⟩
 have b:(cur.toList.take n)[j]?=vs[j]?:=by rw[ht]
 rw[List.getElem?_take_of_lt (by omega)]at b
 simp only[World.cell?,hb,XaZ]
 simp only[Option.isSome_none,XaT,if_false]
 rw[<-Array.getElem?_toList,b]
 simp[a]
theorem Qjg{w:World}{g n:Nat}{os:Array Obj}{cur:Array Value}{e:TypeId}{fr:Nat×Nat}(d:Array Value)(hb:w.heap[g]?=some (.cells cur e fr)) :
  (grow (putRow id (Sort.ahead w n) g 0 d) os).heap[g]?=some (.cells (putCells id 0 d cur) e fr):=by
 have a:g<w.heap.size:=(Array.getElem?_eq_some_iff.1 hb).1
 rw[heap_grow_old _ _ (by simpa using a)]
 simp[putRow,mapBlock,Sort.ahead,Array.getElem?_modify,hb,onCells]
theorem QdV{w:World}{g n:Nat}{os:Array Obj}(d:Array Value):w.grownBy (grow (putRow id (Sort.ahead w n) g 0 d) os) (some g):=by
 refine⟨rfl,rfl,rfl,by simp,fun k hk hne=>?_⟩
 rw[heap_grow_old _ _ (by simpa using hk)]
 have:g≠k:=fun e=>hne (by rw[e])
 simp[putRow,mapBlock,Sort.ahead,Array.getElem?_modify,this]
theorem Qfo(cur:Array Value)(ts:List Value)(h:ts.length<=cur.size):(putCells id 0 ts.toArray cur).toList.take ts.length=ts:=by
 apply List.ext_getElem?
 intro j
 by_cases a:j<ts.length
 ·rw[List.getElem?_take_of_lt a,Array.getElem?_toList]
  simp[putCells,a,show j<cur.size by omega]
 ·rw[List.getElem?_take_eq_none (by omega),List.getElem?_eq_none (by omega)]
theorem Qam(x y:Job):cfJ x y<0↔y.prio<x.prio\/x.prio=y.prio/\x.id<y.id:=by
 unfold cfJ
 split <;> omega
theorem Qwm{α:Type}(f:α->Job):SWO (ltOf fun x y:α=>cfJ (f x) (f y)) where
 irrefl x:=decide_eq_false fun h=>by have:=(Qam _ _).1 h;omega
 trans x y z a b:=decide_eq_true ((Qam _ _).2 (by
  have a:=(Qam _ _).1 (of_decide_eq_true a)
  have b:=(Qam _ _).1 (of_decide_eq_true b)
  omega))
 ntrans x y z a b:=decide_eq_false fun h=>by
  have h:=(Qam _ _).1 h
  have a:¬_:=fun e=>of_decide_eq_false a ((Qam _ _).2 e)
  have b:¬_:=fun e=>of_decide_eq_false b ((Qam _ _).2 e)
  omega
def ordJ(l:List Job):List Job:=l.mergeSort fun x y=>!decide (cfJ y x<0)
theorem Wb(l:List Job):(ordJ l).length=l.length:=Xcp l
theorem Qgz{l:List Job}{x:Job}:x∈ordJ l↔x∈l:=(Xbz l _).mem_iff
theorem Qu7{l:List Job}{dd:Bool}(hl:∀x∈l,Qm x=true)(hd:∀x∈l,∀y∈l,x.id=y.id->x=y)(hll:l.length<=1000000) :
  MCalls Tryz.prog 259 [.row 1000000,.clo 260 []] [(1000000,.row 40 (jobE l) dd)] (fun _:Unit=>True) (fun _=>[]) (fun _=>[(1000000,.row 40 (jobE (ordJ l)) dd)]) (fun _=>[]):=by
 refine Qd6 (z:=11) ti40.sized (QV fun _=>rfl) (QV fun _=>rfl) (JT (f:=jobD) (z:=11) (fun _=>rfl) (Wb l)) (fun us w'=>Go.MuLone.run_callFunc_enter Tryz.func259 rfl rfl us w') ?_
 intro w v us ax en S ho hr ai hS
 have ak:=QlL hr
 subst ak
 have ah:(jobE l).length=l.length:=Xar _
 rw[ah]at ho ⊢
 obtain⟨fv,am,rfl,hf,h3⟩:=ai
 have ae:am=[]:=h3
 subst ae
 obtain⟨ad,rfl,af⟩:=hf
 have o:ad=[]:=af
 subst o
 rcases l with _|⟨x0,l'⟩
 ·have e0:ordJ []=[]:=Xaz (Wb [])
  rw[e0]
  obtain⟨p,cap,rfl⟩:∃p cap,v=.slice p 0 cap:=by
   rcases ho.2 with ⟨hv,_⟩|⟨g,cap,cur,hv,_⟩
   ·exact⟨none,0,hv⟩
   ·exact⟨_,cap,hv⟩
  have c:=AnyF.slices_SortFunc_none Tryz.sortJ p cap (.func (.func 260) #[] #[]) w
  change Calls Tryz.prog 259 _ _ _ at c
  refine c.mono fun e w' ⟨he,hw⟩=>?_
  subst hw
  exact⟨he,Qf8 _ _,[],ho,rfl,rfl⟩
 rcases ho.2 with ⟨hv,hn⟩|⟨g,cap,cur,hv,hbg,hg,hnc,hcm,hcs,htake⟩
 ·simp at hn
 subst hv
 have ag:=(Array.getElem?_eq_some_iff.1 hg).1
 haveI:Inhabited { x:Job // x∈x0::l' }:=⟨⟨x0,Xaa⟩⟩
 have i:(x0::l').attach.map Subtype.val=x0::l':=List.attach_map_subtype_val _
 generalize (x0::l').attach=d at i
 have t:d.toArray.size=(x0::l').length:=by have h:=congrArg List.length i;rw[Xar]at h;rw[XbG];exact h
 have u:∀q:List { x:Job // x∈x0::l' },flatK (fun x:{ x:Job // x∈x0::l' }=>jobV x.1) 11 q.toArray=((q.map Subtype.val).flatMap jobV).toArray:=fun q=>by
  rw[Qnj (enc:=fun x:{ x:Job // x∈x0::l' }=>jobV x.1) (k:=11) (fun _=>rfl) (by omega),List.flatMap_map]
 have ab:∀q:List Job,(q.flatMap jobV).length=q.length*11:=fun q=>QaG (enc:=jobV) (k:=11) (fun _=>rfl) q
 have hH:HoldsK (fun x:{ x:Job // x∈x0::l' }=>jobV x.1) 11 w g 0 d.toArray:=by
  unfold HoldsK
  rw[u,i]
  exact Qew hg (ab _).symm htake
 have aa:∀x:{ x:Job // x∈x0::l' },(1<=x.1.id/\x.1.id<=999)/\0<=x.1.prio/\x.1.prio<=999:=fun x=>by
  have h:=hl x.1 x.2
  simp only[Qm,Xac,J4]at h
  exact⟨h.1.1.1.1.1.1,h.1.1.1.1.1.2⟩
 have r:CmpLays Tryz.prog 260 #[] (fun x:{ x:Job // x∈x0::l' }=>jobV x.1) 11 (fun x y=>cfJ x.1 y.1) g 0 d.toArray.size w:=
  fun _ _ _ _ x y=>QiI _ (aa x) (aa y)
 have c:=AnyQ.slices_SortFunc_total Tryz.sortJ 11 Tryz.isAgg40 Tryz.sizeOf40 (fun x:{ x:Job // x∈x0::l' }=>jobV x.1) (fun _=>rfl) (fun x v hv=>by simp only[Xai,Xcf,or_false]at hv;rcases hv with rfl|rfl|rfl|rfl|rfl|rfl|rfl|rfl|rfl|rfl|rfl <;> rfl) (fun x y=>cfJ x.1 y.1) (Qwm _) 260 #[] g 0 cap d.toArray w
  (fun args w'=>Go.MuLone.run_callFunc_enter Tryz.func260 rfl rfl args w') r hH ag (by rw[t];omega)
  (fun x y h1 h2=>Subtype.ext (hd _ x.2 _ y.2 (by
   have h1:¬_:=fun e=>of_decide_eq_false h1 ((Qam _ _).2 e)
   have h2:¬_:=fun e=>of_decide_eq_false h2 ((Qam _ _).2 e)
   omega)))
 rw[t]at c
 change Calls Tryz.prog 259 _ _ _ at c
 have aj:(d.mergeSort fun x y=>!(ltOf fun x y:{ x:Job // x∈x0::l' }=>cfJ x.1 y.1) y x).map Subtype.val=ordJ (x0::l'):=by
  refine Eq.trans (List.map_mergeSort (s:=fun x y=>!decide (cfJ y x<0)) fun a _ b _=>rfl) ?_
  rw[i]
  rfl
 refine c.mono fun e w' ⟨he,n,os,hw⟩=>?_
 have al:w'=grow (putRow id (Sort.ahead w n) g 0 ((ordJ (x0::l')).flatMap jobV).toArray) os:=by
  rw[hw]
  unfold sortWorldK putRowK
  rw[u]
  exact congrArg (fun q:List Job=>grow (putRow id (Sort.ahead w n) g 0 (q.flatMap jobV).toArray) os) aj
 subst al
 have j:=Wb (x0::l')
 have m:=ab (ordJ (x0::l'))
 refine⟨he,QdV _,(ordJ (x0::l')).flatMap jobV,⟨by rw[m,j],.inr ⟨g,cap,_,rfl,hbg,Qjg _ hg,hnc,hcm,by simpa [putCells] using hcs,?_⟩⟩,QhS _ _⟩
 rw[show(x0::l').length*11=((ordJ (x0::l')).flatMap jobV).length by rw[m,j]]
 refine Qfo _ _ ?_
 rw[m,j,hcs]
 exact XaI 11 hnc
end Go.Proofs.YtkdniahincpmaaaGreat
namespace Go.Proofs.YtkdniahincpmaaaGreat
open Go Go.RowKit Go.Sort

theorem QaZ{a b:Job}:befB a b=true↔b.prio<a.prio\/a.prio=b.prio/\a.id<b.id:=by simp[befB]
theorem QkJ{a b:Job}:decide (cfJ a b<0)=befB a b:=by
 rw[Xan,decide_eq_true_eq,Qam,QaZ]
def insJ(j:Job):List Job->List Job
 | []=>[j]
 | x::l=>if befB j x=true then j::x::l else x::insJ j l
def insS(j:Job)(q:List Job×Bool)(x:Job):List Job×Bool:=if q.2=false/\befB j x=true then(q.1++[j]++[x],true) else(q.1++[x],q.2)
def QaL(j:Job)(l:List Job):List Job×Bool:=l.foldl (insS j) ([],false)
theorem QnI{j:Job}{l:List Job}{i:Nat}(h:i<l.length):QaL j (l.take (i+1))=insS j (QaL j (l.take i)) (nth l i):=by
 rw[QF h,QaL,XaN]
 rfl
theorem Qdq{j:Job}:∀(l:List Job) (a:List Job),(let q:=l.foldl (insS j) (a,false);if q.2=true then q.1 else q.1++[j])=a++insJ j l/\(l.foldl (insS j) (a,true))=(a++l,true)
 | [],a=>by simp[insJ]
 | x::l,a=>by
  obtain⟨h1,_⟩:=Qdq (j:=j) l (a++[x])
  have h2:=(Qdq (j:=j) l (a++[j]++[x])).2
  have h3:=(Qdq (j:=j) l (a++[x])).2
  constructor
  ·simp only[Xa4,insS,insJ]
   by_cases hn:befB j x=true
   ·simp only[hn,and_self,if_true]
    rw[h2]
    simp
   ·simp only[hn]
    simpa using h1
  ·simp only[Xa4,insS,Bool.true_eq_false,false_and,if_false]
   rw[h3]
   simp
theorem Qr0{j:Job}{l:List Job}:(if(QaL j l).2=true then(QaL j l).1 else(QaL j l).1++[j])=insJ j l:=by
 have:=(Qdq (j:=j) l []).1
 rw[Xba]at this
 exact this
theorem QsQ(j:Job)(q:List Job×Bool)(x:Job):(insS j q x).1.length+(if(insS j q x).2=true then 0 else 1)=q.1.length+(if q.2=true then 0 else 1)+1:=by
 unfold insS
 split
 ·rename_i h
  rw[h.1];simp
 ·simp;split <;> omega
theorem QpV(j:Job):∀(l:List Job),(QaL j l).1.length<=l.length+1:=by
 intro l
 have a:∀(l:List Job) (q:List Job×Bool),(l.foldl (insS j) q).1.length+(if(l.foldl (insS j) q).2=true then 0 else 1)=q.1.length+(if q.2=true then 0 else 1)+l.length:=by
  intro l
  induction l with
  | nil=>intro q;rfl
  | cons x l ih=>intro q;rw[Xa4,ih,QsQ,Xap];omega
 have:=a l ([],false)
 simp at this
 unfold QaL
 omega
theorem Qej(j:Job):∀(l:List Job),(insJ j l).Perm (j::l)
 | []=>Xby _
 | x::l=>by
  unfold insJ
  split
  ·exact Xby _
  ·exact((Qej j l).cons x).trans (List.Perm.swap j x l)
def srtd(l:List Job):Prop:=l.Pairwise fun a b=>befB b a=false
theorem QrK{a b c:Job}(h1:befB b a=false)(h2:befB c b=false):befB c a=false:=by
 rw[<-XbF,QaZ]at *
 omega
theorem Qkr{a b:Job}(h1:befB a b=true):befB b a=false:=by
 rw[<-XbF,QaZ]
 rw[QaZ]at h1
 omega
theorem Qmq(j:Job):∀(l:List Job),srtd l->srtd (insJ j l)
 | [],_=>by simp[insJ,srtd]
 | x::l,h=>by
  unfold insJ
  have h':=Xau.1 h
  split
  ·rename_i hn
   refine Xau.2 ⟨fun y hy=>?_,h⟩
   rcases Xai.1 hy with rfl|hy
   ·exact Qkr hn
   ·exact QrK (Qkr hn) (h'.1 y hy)
  ·rename_i hn
   refine Xau.2 ⟨fun y hy=>?_,Qmq j l h'.2⟩
   rcases Xai.1 ((Qej j l).mem_iff.1 hy)with rfl|hy
   ·simpa using hn
   ·exact h'.1 y hy
def insL(l:List Job):List Job:=l.foldl (fun o x=>insJ x o) []
theorem Qoc{l:List Job}{i:Nat}(h:i<l.length):insL (l.take (i+1))=insJ (nth l i) (insL (l.take i)):=by
 rw[QF h,insL,XaN]
 rfl
theorem QkU:∀(q o:List Job),srtd o->srtd (q.foldl (fun o x=>insJ x o) o)/\(q.foldl (fun o x=>insJ x o) o).Perm (o++q)
 | [],o,h=>⟨h,by rw[Xa3];exact Xby _⟩
 | x::q,o,h=>by
  obtain⟨h1,h2⟩:=QkU q (insJ x o) (Qmq x o h)
  refine⟨h1,h2.trans ?_⟩
  exact(((Qej x o).append_right q).trans (Xcu (l₁:=o) (l₂:=q) (a:=x)).symm)
theorem Qbh(l:List Job):(insL l).Perm l:=(QkU l [] List.Pairwise.nil).2
theorem QlA(l:List Job):(insL l).length=l.length:=(Qbh l).length_eq
def uniJ(l:List Job):Prop:=∀x∈l,∀y∈l,x.id=y.id->x=y
theorem Jg.uni{l:List Job}(h:Jg l):uniJ l:=fun x hx y hy e=>by
 obtain⟨i,a,rfl⟩:=Jt hx
 obtain⟨k,b,rfl⟩:=Jt hy
 rcases Nat.lt_trichotomy i k with h1|h1|h1
 ·exact absurd e (h.diff k b i h1)
 ·rw[h1]
 ·exact absurd e.symm (h.diff i a k h1)
theorem Qs5(l:List Job):srtd (ordJ l):=by
 have h:=Xck (le:=fun x y=>!decide (cfJ y x<0)) (fun a b c h1 h2=>?_) (fun a b=>?_) l
 ·refine h.imp fun {a b} hab=>?_
  rw[QkJ]at hab
  simpa using hab
 ·simp only[QkJ,Xa6]at h1 h2 ⊢
  exact QrK h1 h2
 ·simp only[QkJ,Xcw,Xa6]
  cases hb:befB b a with
  | false=>exact .inl rfl
  | true=>exact .inr (Qkr hb)
theorem QtP{l:List Job}(h:uniJ l):ordJ l=insL l:=by
 refine List.Perm.eq_of_pairwise (le:=fun a b=>befB b a=false) (fun a b ha hb h1 h2=>h a (Qgz.1 ha) b ((Qbh l).mem_iff.1 hb) ?_) (Qs5 l) (QkU l [] List.Pairwise.nil).1 ((Xbz l _).trans (Qbh l).symm)
 rw[<-XbF,QaZ]at h1 h2
 omega
def VH(l:List Job)(id:Int):Option Job:=l.find? fun j=>j.id==id
theorem QlM{l:List Job}{id:Int}{i:Nat}(hi:i<l.length)(h:(nth l i).id=id)(hp:∀j,j<i->(nth l j).id≠id):VH l id=some (nth l i):=by
 unfold VH
 rw[List.find?_eq_some_iff_getElem]
 rw[Jd hi]at h ⊢
 refine⟨beq_iff_eq.2 h,i,hi,rfl,fun j hj=>?_⟩
 have:=hp j hj
 rw[Jd (by omega)]at this
 simpa using this
theorem Qt6{l:List Job}{id:Int}(hp:∀j,j<l.length->(nth l j).id≠id):VH l id=none:=by
 unfold VH
 rw[List.find?_eq_none]
 intro x c
 obtain⟨j,b,rfl⟩:=Jt c
 simpa using hp j b
def outJ(l:List Job)(id:Int):List Job:=l.filter fun j=>!(j.id==id)
theorem XW:∀{l:List Job} {i:Nat} (_:(l.map Job.id).Nodup) (_:i<l.length),l.eraseIdx i=outJ l (nth l i).id
 | [],i,_,hi=>absurd hi (Xaq _)
 | x::l,0,h,_=>by
  rw[Xas,XaQ]at h
  have e:nth (x::l) 0=x:=rfl
  rw[e,List.eraseIdx_cons_zero,outJ,List.filter_cons_of_neg (by simp),eq_comm,XcC]
  intro y hy
  have:y.id≠x.id:=fun e=>h.1 (by rw[<-e];exact Xaf.2 ⟨y,hy,rfl⟩)
  simpa using this
 | x::l,i+1,h,hi=>by
  rw[Xas,XaQ]at h
  have hi':i<l.length:=by simpa using hi
  have e:nth (x::l) (i+1)=nth l i:=by simp[nth]
  have:x.id≠(nth l i).id:=fun e=>h.1 (by rw[e];exact Xaf.2 ⟨_,QE hi',rfl⟩)
  rw[e,List.eraseIdx_cons_succ,XW h.2 hi',outJ,outJ,List.filter_cons_of_pos (by simpa using this)]
theorem Jg.nodup{l:List Job}(h:Jg l):(l.map Job.id).Nodup:=by
 rw[List.Nodup,Xbn,Xa9]
 intro i k c b a
 have:=h.diff k b i a
 rwa [Jd c,Jd b]at this
end Go.Proofs.YtkdniahincpmaaaGreat
namespace Go.Proofs.YtkdniahincpmaaaGreat
open Go Go.RowKit Tryz
section

structure JL where
 id:Int
 at':Int
 nodes:List Int
instance:Inhabited JL:=⟨⟨0,0,[]⟩⟩
def QxP(h:JL):List D:=[.n .i64 h.id,.n .i64 h.at',.sl (intE h.nodes)]
def QbM(l:List JL):List (List D):=l.map fun h=>[.n .i64 h.id,.n .i64 h.at',.sl (intE h.nodes)]
theorem Yd(l:List JL):(QbM l).length=l.length:=by simp[QbM]
theorem XX(l:List JL)(h:JL):QbM l++[[.n .i64 h.id,.n .i64 h.at',.sl (intE h.nodes)]]=QbM (l++[h]):=by simp[QbM]
noncomputable def Qiy (now depth:Int) (q:Jn×List JL×List JL) (j:Job):Jn×List JL×List JL:=
 match earO q.1 j now with
 | none=>q
 | some x=>if now<x.1/\depth<=q.2.2.length then q else match resO q.1 j x.1 (x.1+j.wall) x.2 with
  | none=>q
  | some r'=>if x.1=now then(r',q.2.1++[⟨j.id,x.1,x.2⟩],q.2.2) else(r',q.2.1,q.2.2++[⟨j.id,x.1,x.2⟩])
noncomputable def Vg (r:Jn) (now depth:Int) (l:List Job):Jn×List JL×List JL:=l.foldl (Qiy now depth) (r,[],[])
theorem X8{r:Jn}{now depth:Int}{l:List Job}{i:Nat}(h:i<l.length):Vg r now depth (l.take (i+1))=Qiy now depth (Vg r now depth (l.take i)) (nth l i):=by
 rw[QF h,Vg,XaN]
 rfl
structure Qob (r:Jn) (now:Int) (js:List Job) (q:Jn×List JL×List JL):Prop where
 room:Q6 q.1
 topo:q.1.topo=r.topo/\q.1.up=r.up
 len:q.2.1.length+q.2.2.length<=js.length
 sub:(q.2.1.map JL.id).Sublist (js.map Job.id)
 st:∀h∈q.2.1,h.at'=now/\1<=h.nodes.length/\h.nodes.length<=24
 lt:∀h∈q.2.2,1<=h.nodes.length/\h.nodes.length<=24
theorem Qnd{r:Jn}{now depth:Int}{js:List Job}{q:Jn×List JL×List JL}{j:Job}(h:Qob r now js q):Qob r now (js++[j]) (Qiy now depth q j):=by
 have a:Qob r now (js++[j]) q:=⟨h.room,h.topo,by have:=h.len;rw[Xab];omega,by rw[XaG];exact h.sub.trans (List.sublist_append_left _ _),h.st,h.lt⟩
 unfold Qiy
 split
 ·exact a
 ·rename_i x _
  split
  ·exact a
  ·split
   ·exact a
   ·rename_i e f
    obtain⟨d,i,k,l,m⟩:=Xr f
    obtain⟨k6,_⟩:=YA m
    have b:1<=x.2.length/\x.2.length<=24:=by have:=l.num;omega
    have c:e.topo=r.topo/\e.up=r.up:=⟨i.trans h.topo.1,k.trans h.topo.2⟩
    have hl:=h.len
    split
    ·rename_i g
     refine⟨d,c,by simp;omega,?_,fun y hy=>?_,h.lt⟩
     ·rw[XaG,XaG]
      exact h.sub.append (Xbv _)
     ·rcases Xag.1 hy with hy|hy
      ·exact h.st y hy
      ·obtain rfl:=XaH.1 hy
       exact⟨g,b⟩
    ·refine⟨d,c,by simp;omega,by rw[XaG];exact h.sub.trans (List.sublist_append_left _ _),h.st,fun y hy=>?_⟩
     rcases Xag.1 hy with hy|hy
     ·exact h.lt y hy
     ·obtain rfl:=XaH.1 hy
      exact b
theorem QpK{r:Jn}{now depth:Int}{l:List Job}(h:Q6 r):∀(i:Nat),i<=l.length->Qob r now (l.take i) (Vg r now depth (l.take i))
 | 0,_=>⟨h,⟨rfl,rfl⟩,by simp[Vg],by simp[Vg],by simp[Vg],by simp[Vg]⟩
 | i+1,hi=>by
  rw[X8 (by omega),QF (by omega)]
  exact Qnd (QpK h i (by omega))
def runH(now:Int)(q:List Job×List Run)(h:JL):List Job×List Run:=(outJ q.1 h.id,q.2++[⟨(VH q.1 h.id).getD default,now,h.nodes⟩])
def runF(now:Int)(qs:List Job)(rs:List Run)(hs:List JL):List Job×List Run:=hs.foldl (runH now) (qs,rs)
theorem W3{now:Int}{qs:List Job}{rs:List Run}{hs:List JL}{i:Nat}(h:i<hs.length):runF now qs rs (hs.take (i+1))=runH now (runF now qs rs (hs.take i)) (nth hs i):=by
 rw[QF h,runF,XaN]
 rfl
theorem QtE{l:List Job}{id:Int}{x:Job}:x∈outJ l id↔x∈l/\x.id≠id:=by simp[outJ]
structure StrP (now:Int) (qs:List Job) (rs:List Run) (hs:List JL) (i:Nat):Prop where
 mem:∀x,x∈(runF now qs rs (hs.take i)).1↔x∈qs/\∀j,j<i->(nth hs j).id≠x.id
 sub:(runF now qs rs (hs.take i)).1.Sublist qs
 len:(runF now qs rs (hs.take i)).2.length=rs.length+i
 que:(runF now qs rs (hs.take i)).1.length+i<=qs.length
 new:∀y∈(runF now qs rs (hs.take i)).2,y∈rs\/∃h∈hs.take i,y.at'=now/\y.nodes=h.nodes/\y.job∈qs/\y.job.id=h.id
theorem QfQ{l:List Job}{id:Int}{j:Job}(h:VH l id=some j):j∈l/\j.id=id:=
 ⟨List.mem_of_find?_eq_some h,by simpa using List.find?_some h⟩
theorem Qic{l:List Job}{id:Int}(h:id∈l.map Job.id):∃j,VH l id=some j:=by
 obtain⟨x,b,e⟩:=Xaf.1 h
 cases a:VH l id with
 | some j=>exact⟨j,rfl⟩
 | none=>
  have:=List.find?_eq_none.1 a x b
  simp[e]at this
theorem Qs0{l:List Job}{id:Int}(h:id∈l.map Job.id):(outJ l id).length+1<=l.length:=by
 obtain⟨x,b,e⟩:=Xaf.1 h
 have:=Xb5 (p:=fun j:Job=>!(j.id==id)) (l:=l)
 have a:=this.2 ⟨x,b,by simp[e]⟩
 exact a
theorem strP{now:Int}{qs:List Job}{rs:List Run}{hs:List JL}(hn:(hs.map JL.id).Nodup)(hsub:∀h∈hs,h.id∈qs.map Job.id):∀(i:Nat),i<=hs.length->StrP now qs rs hs i/\(i<hs.length->(nth hs i).id∈(runF now qs rs (hs.take i)).1.map Job.id)
 | 0,_=>⟨⟨by simp[runF],by simp[runF],by simp[runF],by simp[runF],by simp[runF]⟩,fun h=>by
  simp only[XbP,runF,List.foldl_nil]
  exact hsub _ (QE h)⟩
 | i+1,hi=>by
  obtain⟨h,hh⟩:=strP (now:=now) (rs:=rs) hn hsub i (by omega)
  have hin:=hh (by omega)
  have hmem:∀x,x∈(runF now qs rs (hs.take (i+1))).1↔x∈qs/\∀j,j<i+1->(nth hs j).id≠x.id:=fun x=>by
   rw[W3 (by omega)]
   show x∈outJ _ _↔_
   rw[QtE,h.mem]
   constructor
   ·rintro ⟨⟨h1,h2⟩,h3⟩
    refine⟨h1,fun j hj=>?_⟩
    by_cases e:j=i
    ·subst e;exact fun e=>h3 e.symm
    ·exact h2 j (by omega)
   ·rintro ⟨h1,h2⟩
    exact⟨⟨h1,fun j hj=>h2 j (by omega)⟩,fun e=>h2 i (by omega) e.symm⟩
  refine⟨⟨hmem,?_,?_,?_,?_⟩,fun hi'=>?_⟩
  ·rw[W3 (by omega)]
   exact XaC.trans h.sub
  ·rw[W3 (by omega)]
   have:=h.len
   simp only[runH,Xab,Xap,XaS]
   omega
  ·rw[W3 (by omega)]
   have:=Qs0 hin
   have:=h.que
   simp only[runH]
   omega
  ·rw[W3 (by omega)]
   intro y hy
   rcases Xag.1 hy with hy|hy
   ·refine(h.new y hy).imp id fun⟨x,hx,h2⟩=>⟨x,?_,h2⟩
    rw[QF (by omega)]
    exact Xat _ hx
   ·obtain rfl:=XaH.1 hy
    obtain⟨j,hj⟩:=Qic hin
    obtain⟨j1,j2⟩:=QfQ hj
    refine .inr ⟨nth hs i,?_,rfl,rfl,?_,?_⟩
    ·rw[QF (by omega)]
     simp
    ·simp only[hj,XaJ]
     exact((h.mem j).1 j1).1
    ·simp only[hj,XaJ]
     exact j2
  ·obtain⟨x,hx,e⟩:=Xaf.1 (hsub _ (QE hi'))
   refine Xaf.2 ⟨x,(hmem x).2 ⟨hx,fun j hj e2=>?_⟩,e⟩
   have h1:(hs.map JL.id)[j]'(by simp;omega)=(hs.map JL.id)[i+1]'(by simpa using hi'):=by
    simp only[Xcg]
    rw[<-Jd (by omega),<-Jd hi',e2,e]
   have:=(XcK (h₀:=by simp;omega) (h₁:=by simpa using hi') hn).1 h1
   omega
noncomputable def Vh (s:Qb):List JL×List JL:=match Jr s with
 | none=>([],[])
 | some r=>(Vg r s.now s.depth (ordJ s.queue)).2
noncomputable def Js (s:Qb):Qb:={ s with queue:=(runF s.now s.queue s.runs (Vh s).1).1,runs:=(runF s.now s.queue s.runs (Vh s).1).2 }
theorem Zk{s:Qb}{r:Jn}(h:Jr s=some r):Vh s=(Vg r s.now s.depth (ordJ s.queue)).2:=by unfold Vh;rw[h]
theorem QaF{s:Qb}{r:Jn}(h:Jr s=some r):Q6 r:=by
 obtain⟨h1,h2,h3,h4,h5⟩:=YO h
 assumption
theorem Qk0{s:Qb}{r:Jn}(h:Jr s=some r):Qob r s.now (ordJ s.queue) (Vg r s.now s.depth (ordJ s.queue)):=by
 have:=QpK (now:=s.now) (depth:=s.depth) (l:=ordJ s.queue) (QaF h) (ordJ s.queue).length (Xaj _)
 rwa [Xal]at this
end
section
attribute [local irreducible] AWp QM OpOk ACalls ChA QsOk MCalls NCalls EnC PY

theorem Jg.ok{l:List Job}(h:Jg l):∀x∈l,Qm x=true:=fun x hx=>by
 obtain⟨i,a,rfl⟩:=Jt hx
 exact h.jobs i a
theorem Qwa{l:List Job}(hq:Jg l):DC Tryz.prog 204 [zL (jobE l)] [zL (jobE (ordJ l))]:=by
 refine zMC func204 fun w0 Z O=>?_
 have hl:=Qj l
 have b:=hq.len
 have a:=Qu7 (l:=l) (dd:=true) hq.ok hq.uni (by omega)
 repeat'(first|(refine zhm fun hb=>?_;try exact zab)|refine zUro ?_|refine zg2 ?_ ?_|(refine km [4] (a) rfl rfl (fun i hi=>?_);try dsimp only at hi)|intro _)
 show AWp _ _ _ _
 refine Qp 4 rfl ?_
 exact zDR
theorem Qv4{l:List Job}(hq:Jg l):DC Tryz.prog 214 [zL (jobE l)] [zL (jobE (insL l))]:=by
 refine zMC func214 fun w0 Z O=>?_
 have y:=Qj l
 have aa:=hq.len
 have u:=Qem (l:=l) (by omega)
 rw[show Yz l=true from pB_t.2 hq]at u
 repeat'(first|(refine zhm fun hb=>?_;try exact zab)|refine zUtp ?_|refine zg2 ?_ ?_|intro _)
 refine Qp 10 rfl ?_
 refine Qa (fun(i:Nat)=>⟨53,[(3,zL (jobE (insL (l.take i)))),(15,zL (jobE l)),(16,zI (l.length:Nat)),(17,zI i)],[]⟩) (fun i=>i<=l.length) (fun i=>l.length-i) 0 (by exact Xae _) ?_ ?_
 ·exact zll
 intro i hi
 have p:(insL (l.take i)).length=i:=by rw[QlA,Xah];omega
 by_cases n:i<l.length
 ·have f:=Qoc n
  generalize insL (l.take i)=o at p f ⊢
  generalize hx:nth l i=x at f
  have z:=Qj o
  repeat'(first|(refine zhm fun hb=>?_;try exact zab)|refine zUtp ?_|refine zg2 ?_ ?_|intro _)
  rw[hx]
  refine Qa (fun(k:Nat)=>⟨53,[(5,.ptr 5 0),(6,.row 21),(7,.d (.b (QaL x (o.take k)).2)),(15,zL (jobE l)),(16,zI (l.length:Nat)),(17,zI i),(22,zL (jobE o)),(23,zI (o.length:Nat)),(24,zI k)],[(5,.box 40 ((jobD x).map AV.d)),(21,.row 40 (jobE (QaL x (o.take k)).1) true)]⟩) (fun k=>k<=o.length) (fun k=>o.length-k) 0 (by exact Xae _) ?_ ?_
  ·exact zll
  intro k v
  have r:=QpV x (o.take k)
  rw[QgG v]at r
  have t:=Qj (QaL x (o.take k)).1
  by_cases q:k<o.length
  ·have c:=QnI (j:=x) q
   unfold insS at c
   have s:=QkM (a:=x) (b:=nth o k)
   cases g:(QaL x (o.take k)).2 with
   | true=>
    rw[g,if_neg (by simp)]at c
    repeat'(first|(refine zhm fun hb=>?_;try exact zab)|refine zUtp ?_|refine zg2 ?_ ?_|intro _)
    refine⟨k+1,by omega,by omega,?_⟩
    refine⟨rfl,?_,?_,rfl⟩
    repeat'(first|exact ze3|refine ze2 ?_ ?_|refine ze4 ?_|exact ze5|fail)
    all_goals exact zp (by first|rfl|(rw[c];exact YF _ _)|rw[c])
   | false=>
    cases e:befB x (nth o k) with
    | true=>
     rw[g,if_pos ⟨rfl,e⟩]at c
     rw[e]at s
     have w:(jobE (QaL x (o.take k)).1++[jobD x]).length=(QaL x (o.take k)).1.length+1:=by simp[jobE]
     repeat'(first|(refine zhm fun hb=>?_;try exact zab)|refine zUtp ?_|refine zg2 ?_ ?_|intro _)
     refine⟨k+1,by omega,by omega,?_⟩
     refine⟨rfl,?_,?_,rfl⟩
     repeat'(first|exact ze3|refine ze2 ?_ ?_|refine ze4 ?_|exact ze5|fail)
     all_goals exact zp (by first|rfl|(rw[c];simp[jobE];done)|rw[c])
    | false=>
     rw[g,if_neg (fun h=>by rw[e]at h;cases h.2)]at c
     rw[e]at s
     repeat'(first|(refine zhm fun hb=>?_;try exact zab)|refine zUtp ?_|refine zg2 ?_ ?_|intro _)
     refine⟨k+1,by omega,by omega,?_⟩
     refine⟨rfl,?_,?_,rfl⟩
     repeat'(first|exact ze3|refine ze2 ?_ ?_|refine ze4 ?_|exact ze5|fail)
     all_goals exact zp (by first|rfl|(rw[c];exact YF _ _)|rw[c])
  ·obtain rfl:k=o.length:=by omega
   rw[Xal]at *
   have m:=Qr0 (j:=x) (l:=o)
   cases g:(QaL x o).2 with
   | true=>
    rw[g,if_pos rfl]at m
    repeat'(first|(refine zhm fun hb=>?_;try exact zab)|(refine Qi 19 21 rfl ?_)|refine zUtp ?_|refine zg2 ?_ ?_|intro _)
    refine⟨i+1,by omega,by omega,?_⟩
    refine zag ?_;exact zp (by rw[f,m])
   | false=>
    rw[g,if_neg (by simp)]at m
    repeat'(first|(refine zhm fun hb=>?_;try exact zab)|(refine Qi 19 21 rfl ?_)|refine zUtp ?_|refine zg2 ?_ ?_|intro _)
    refine⟨i+1,by omega,by omega,?_⟩
    refine zag ?_;exact zp (by(rw[f,<-m];exact YF _ _))
 ·obtain rfl:i=l.length:=by omega
  rw[Xal]at *
  repeat'(first|(refine zhm fun hb=>?_;try exact zab)|refine zUrp ?_|refine zg2 ?_ ?_|intro _)
  exact zDR
theorem Qa8{l:List Job}{id:Int}(hl:l.length<=1000000000):zAc 313 [zL (jobE l),zI id] [jobA ((VH l id).getD default),.d (.b (VH l id).isSome)] []:=by
 refine zAC func313 fun w0 Z=>?_
 have f:=Qj l
 repeat'(first|(refine zhm fun hb=>?_;try exact zab)|refine zUtp ?_|refine zg2 ?_ ?_|intro _)
 refine Qa (fun(i:Nat)=>⟨21,[(1,zI id),(4,.ptr 4 0),(8,zL (jobE l)),(9,zI (l.length:Nat)),(10,zI i)],[(4,.box 40 ((jobD default).map AV.d))]⟩) (fun i=>i<=l.length/\∀j,j<i->(nth l j).id≠id) (fun i=>l.length-i) 0 (by exact⟨Xae _,fun j hj=>absurd hj (Xaq _)⟩) ?_ ?_
 ·exact zll
 rintro i ⟨hi,c⟩
 by_cases a:i<l.length
 ·repeat'(first|(refine zhm fun hb=>?_;try exact zab)|refine zUtp ?_|refine zg2 ?_ ?_|intro _)
  ·rw[QlM a (by assumption) c]
   exact zrr
  ·refine⟨i+1,⟨by omega,fun j hj=>?_⟩,by omega,?_⟩
   ·by_cases e:j=i
    ·subst e;assumption
    ·exact c j (by omega)
   exact zll
 ·rw[Qt6 fun j hj=>c j (by omega)]
  repeat'(first|(refine zhm fun hb=>?_;try exact zab)|refine zUtp ?_|refine zg2 ?_ ?_|intro _)
  exact zrr
theorem QoY{l:List Job}{id:Int}{i:Nat}(h:i<l.length):outJ (l.take (i+1)) id=if(nth l i).id=id then outJ (l.take i) id else outJ (l.take i) id++[nth l i]:=by
 rw[QF h,outJ,Xa5]
 split
 ·rename_i e;simp[outJ,e]
 ·rename_i e;simp[outJ,e]
theorem Qwx(l:List Job)(id:Int):(outJ l id).length<=l.length:=Xa2 _ _
theorem QlJ{l:List Job}{id:Int}(hl:l.length<=1000000000):DC Tryz.prog 316 [zL (jobE l),zI id] [zL (jobE (outJ l id))]:=by
 refine zMC func316 fun w0 Z O=>?_
 have g:=Qj l
 repeat'(first|(refine zhm fun hb=>?_;try exact zab)|refine zUtp ?_|refine zg2 ?_ ?_|intro _)
 refine Qa (fun(i:Nat)=>⟨25,[(1,zI id),(5,.row 8),(9,zL (jobE l)),(10,zI (l.length:Nat)),(11,zI i)],[(8,.row 40 (jobE (outJ (l.take i) id)) true)]⟩) (fun i=>i<=l.length) (fun i=>l.length-i) 0 (by exact Xae _) ?_ ?_
 ·exact zll
 intro i f
 have c:=Qwx (l.take i) id
 rw[QgG f]at c
 have e:=Qj (outJ (l.take i) id)
 by_cases b:i<l.length
 ·have a:=QoY (id:=id) b
  by_cases d:(nth l i).id=id
  ·rw[if_pos d]at a
   repeat'(first|(refine zhm fun hb=>?_;try exact zab)|refine zUtp ?_|refine zg2 ?_ ?_|intro _)
   refine⟨i+1,by omega,by omega,?_⟩
   refine zag ?_;exact zp (by rw[a])
  ·rw[if_neg d]at a
   repeat'(first|(refine zhm fun hb=>?_;try exact zab)|refine zUtp ?_|refine zg2 ?_ ?_|intro _)
   refine⟨i+1,by omega,by omega,?_⟩
   refine zag ?_;exact zp (by(rw[a];exact YF _ _))
 ·obtain rfl:i=l.length:=by omega
  rw[Xal]at *
  repeat'(first|(refine zhm fun hb=>?_;try exact zab)|refine zUrp ?_|refine zg2 ?_ ?_|intro _)
  show AWp _ _ _ _
  refine Qp 8 rfl ?_
  exact zDR
theorem Qr2{id:Int}{k:Job}:zAc 291 [jobA k,.pd [.n .i64 id] 0] [.d (.b (k.id==id))] []:=by
 refine zAC func291 fun w0 Z=>?_
 repeat'(first|refine zUco ?_|(refine Hb.mk (fun hb=>?_);(first|rw[decide_eq_true_eq]at hb|rw[decide_eq_false_iff_not]at hb|skip);(first|(exfalso;omega)|(exact absurd rfl hb)|skip))|refine zg2 ?_ ?_|intro _)
 exact zrr
theorem Qkf{l:List Job}{id:Int}(hl:l.length<=1000000000):zAc 240 [zL (jobE l),zI id] [zI (idxF l fun j=>j.id==id)] []:=by
 refine zAC func240 fun w0 Z=>?_
 repeat'(first|(refine zhm fun hb=>?_;try exact zab)|refine zUto ?_|refine zg2 ?_ ?_|refine kc (QeE (l:=l) (p:=fun j=>j.id==id) (g:=291) (ds:=[.n .i64 id]) hl (fun j=>Qr2)) rfl rfl ?_|intro _)
 exact zrr

theorem Qwt{r:Jn}{j:Job}{a b:Int}{l:List Int}(hr:Q6 r)(hl:l.length<=1000000000):MCalls Tryz.prog 196 [Ws r,jobA j,zI a,zI b,.row 1000000,.clo 197 []] [(1000000,.row 3 (intE l) true)] (fun _:Unit=>True) (fun _=>QaN (resO r j a b l)) (fun _=>[(1000000,.row 3 (intE l) true)]) (fun _=>[]):=by
 refine Jb tt func196 rfl rfl rfl ⟨.inl rfl,trivial⟩ (fun _ _=>⟨⟨⟨rfl,rfl,rfl⟩,trivial⟩,.inl rfl,trivial⟩) (fun w0 Z O=>?_)
 have hs:=hr.small
 have c1:=Qde hr
 have u:=Xf (j:=j)
 have w:=QbG (j:=j) hr.topo hl
 cases h:Qm j with
 | false=>
  rw[h]at u
  rw[Qd7 h]
  repeat'(first|(refine zhm fun hb=>?_;try exact zab)|refine Q2 ?_|(apply zch;exact zcg)|exact zhk|refine zg3 ?_ ?_|intro _)
  exact zDR
 | true=>
  rw[h]at u
  cases m:Z4 r.topo j l with
  | false=>
   rw[m]at w
   rw[Qea m]
   repeat'(first|(refine zhm fun hb=>?_;try exact zab)|refine Q2 ?_|(apply zch;exact zcg)|exact zhk|refine zg3 ?_ ?_|intro _)
   exact zDR
  | true=>
   rw[m]at w
   rw[Qro hr h m]
   have p:=pB_t.1 m
   have ad:1<=j.nodes:=by
    simp only[Qm,Xac,J4]at h
    omega
   have z:=p.num
   have x:=p.nodes 0 (by omega)
   have ah:=hr.num
   have ab:=Qc l
   repeat'(first|(refine zhm fun hb=>?_;try exact zab)|refine Qd ?_|(apply zch;exact zcg)|exact zhk|refine zg3 ?_ ?_|refine kmu (QfO hr (by omega)) ?_|intro _)
   refine Qa (fun(k:Nat×List (List Pt))=>⟨86,[(2,zI a),(3,zI b),(5,.clo 197 []),(7,.ptr 7 0),(12,.ptr 12 0),(14,.ptr 14 0),(40,.row 1000000),(41,zI (l.length:Nat)),(42,zI k.1)],[(1000000,.row 3 (intE l) true),(7,.box 40 ((jobD j).map AV.d)),(12,.box 180 [.nil,.nil,.nil,.nil,.nil]),(14,.box 180 [zL (intE r.topo.parents),zL (Qr r.topo.nodes),zL (Qk r.up),.row 39,zL (ptE r.lics)]),(39,.row 178 (Q7 k.2) false)]⟩) (fun k=>QwO r a b j.need l k.1 k.2) (fun k=>l.length-k.1) (0,r.profs) (by exact⟨Xae _,rfl,hr.profs,rfl⟩) ?_ ?_
   ·exact zll
   ·rintro ⟨n,o⟩ g
    dsimp only at g ⊢
    have ae:=g.le
    have y:=g.len
    have ag:=QB o
    by_cases e:n<l.length
    ·have ac:=p.nodes n e
     have s:=g.ok (nth l n).toNat (by omega)
     have aa:=s.len
     have c:=X1 (l:=nth o (nth l n).toNat) (a:=a) (b:=b) (v:=j.need) (by omega)
     cases f:Vo (nth o (nth l n).toNat) a b j.need with
     | none=>
      rw[f]at c
      rw[QdD g e f]
      repeat'(first|(refine zhm fun hb=>?_;try exact zab)|refine Q2 ?_|(apply zch;exact zcg)|exact zhk|refine zg3 ?_ ?_|(refine kw [] (c) rfl rfl rfl rfl rfl (fun i hi=>?_);try dsimp only at hi)|intro _)
      exact zDR
     | some q=>
      rw[f]at c
      have t:=QeY g e (by omega) f
      repeat'(first|(refine zhm fun hb=>?_;try exact zab)|refine Q2 ?_|(apply zch;exact zcg)|exact zhk|refine zg3 ?_ ?_|(refine kw [] (c) rfl rfl rfl rfl rfl (fun i hi=>?_);try dsimp only at hi)|intro _)
      refine⟨(n+1,o.set (nth l n).toNat q),t,by dsimp only;omega,?_⟩
      refine zag ?_;exact zp (QbX _ _ _)
    ·rw[QhJ g e]
     have af:=hr.lics.len
     have c:=X1 (l:=r.lics) (a:=a) (b:=b) (v:=j.lic) (by omega)
     cases f:Vo r.lics a b j.lic with
     | none=>
      rw[f]at c
      repeat'(first|(refine zhm fun hb=>?_;try exact zab)|refine Q2 ?_|(apply zch;exact zcg)|exact zhk|refine zg3 ?_ ?_|(refine kw [] (c) rfl rfl rfl rfl rfl (fun i hi=>?_);try dsimp only at hi)|intro _)
      exact zDR
     | some q=>
      rw[f]at c
      repeat'(first|(refine zhm fun hb=>?_;try exact zab)|refine Q2 ?_|(apply zch;exact zcg)|exact zhk|refine zg3 ?_ ?_|(refine kw [] (c) rfl rfl rfl rfl rfl (fun i hi=>?_);try dsimp only at hi)|intro _)
      show AWp _ _ _ _
      refine Qp 39 rfl ?_
      exact zDR
theorem QoO{r:Jn}{j:Job}{a:Int}{l:List Int}(hr:Q6 r)(hj:Qm j=true)(hl:l.length<=1000000000)(ha:0<=a/\a<=1000000000):MCalls Tryz.prog 206 [Ws r,jobA j,zI a,.row 1000000] [(1000000,.row 3 (intE l) true)] (fun _:Unit=>True) (fun _=>QaN (resO r j a (a+j.wall) l)) (fun _=>[(1000000,.row 3 (intE l) true)]) (fun _=>[]):=by
 refine Jb tt func206 rfl rfl rfl ⟨.inl rfl,trivial⟩ (fun _ _=>⟨⟨⟨rfl,rfl,rfl⟩,trivial⟩,.inl rfl,trivial⟩) (fun w0 Z O=>?_)
 obtain⟨_,j2⟩:=YA hj
 have c:=W7 (x:=a)
 rw[show inB a 0 1000000000=true from J4.mpr ha]at c
 repeat'(first|(refine zhm fun hb=>?_;try exact zab)|refine zUrn ?_|refine zg2 ?_ ?_|(refine km [1000000] (Qwt (j:=j) (a:=a) (b:=a+j.wall) hr hl) rfl rfl (fun i hi=>?_);try dsimp only at hi)|intro _)
 exact zDR

theorem Qxd{r:Jn}{now depth:Int}{l:List Job}(hr:Q6 r)(hq:Jg l)(hnw:0<=now/\now<=1000000000)(hd:0<=depth/\depth<=60):DC Tryz.prog 126 [Ws r,zI now,zL (jobE l),zI depth] [zL (QbM (Vg r now depth (ordJ l)).2.1),zL (QbM (Vg r now depth (ordJ l)).2.2),.d (.b true)]:=by
  rw[QtP hq.uni]
  refine zMC func126 fun w0 Z O=>?_
  have ah:=hq.len
  have c1:=Qdl hr
  have z:=Qem (l:=l) (by omega)
  rw[show Yz l=true from pB_t.2 hq]at z
  have c3:=Wh (x:=now)
  rw[show inB now 0 1000000000=true from J4.mpr hnw]at c3
  have w:=Qv4 hq
  have m:∀x∈insL l,Qm x=true:=fun x hx=>hq.ok x ((Qbh l).mem_iff.1 hx)
  have u:=QlA l
  generalize insL l=js at w m u ⊢
  have ag:=Qj js
  repeat'(first|(refine zhm fun hb=>?_;try exact zab)|refine zUtp ?_|refine zg2 ?_ ?_|refine kmu w ?_|intro _)
  refine WW 41 rfl ?_
  refine WW 42 rfl ?_
  refine Qa (fun(i:Nat)=>⟨104,[(1,zI now),(3,zI depth),(4,.ptr 4 0),(11,.row 41),(12,.row 42),(44,zL (jobE js)),(45,zI (js.length:Nat)),(46,zI i)],[(4,.box 180 (QbV (Vg r now depth (js.take i)).1)),(41,.row 127 (QbM (Vg r now depth (js.take i)).2.1) false),(42,.row 127 (QbM (Vg r now depth (js.take i)).2.2) false)]⟩) (fun i=>i<=js.length) (fun i=>js.length-i) 0 (by exact Xae _) ?_ ?_
  · exact zll
  intro n hi
  have f:=QpK (r:=r) (now:=now) (depth:=depth) (l:=js) hr n hi
  by_cases k:n<js.length
  · have c:=X8 (r:=r) (now:=now) (depth:=depth) k
    have t:=m _ (QE k)
    generalize Vg r now depth (js.take n)=q at f c ⊢
    have ae:=Yd q.2.1
    have af:=Yd q.2.2
    have v:=f.len
    rw[Xah]at v
    unfold Qiy at c
    cases p:earO q.1 (nth js n) now with
    | none=>
      have e:=Qcf (j:=nth js n) (a:=now) f.room t hnw
      rw[p]at e c
      dsimp only at c
      repeat'(first|(refine zhm fun hb=>?_;try exact zab)|refine zUtp ?_|refine zg2 ?_ ?_|refine kmu e ?_|intro _)
      refine⟨n+1,by omega,by omega,?_⟩
      refine⟨rfl,?_,?_,rfl⟩
      repeat'(first|exact ze3|refine ze2 ?_ ?_|refine ze4 ?_|exact ze5|fail)
      all_goals exact zp (by first|rfl|rw[c])
    | some x=>
      have e:DC Tryz.prog 215 [Ws q.1,jobA (nth js n),zI now] [zI x.1,zL (intE x.2),.d (.b true)]:=by
        have h:=Qcf (j:=nth js n) (a:=now) f.room t hnw
        rw[p]at h
        exact h
      obtain⟨ai,aj⟩:=Qi1 f.room t hnw p
      rw[p]at c
      dsimp only at c
      by_cases s:now<x.1/\depth<=q.2.2.length
      · rw[if_pos s]at c
        obtain⟨ab,ac⟩:=s
        repeat'(first|(refine zhm fun hb=>?_;try exact zab)|refine zUtp ?_|refine zg2 ?_ ?_|refine kmu e ?_|intro _)
        refine⟨n+1,by omega,by omega,?_⟩
        refine⟨rfl,?_,?_,rfl⟩
        repeat'(first|exact ze3|refine ze2 ?_ ?_|refine ze4 ?_|exact ze5|fail)
        all_goals exact zp (by first|rfl|rw[c])
      · rw[if_neg s]at c
        have g:=Qd2 (j:=nth js n) (a:=x.1) (l:=x.2) f.room (by omega) (by omega)
        cases o:resO q.1 (nth js n) x.1 (x.1+(nth js n).wall) x.2 with
        | none=>
          rw[o]at g c
          dsimp only at c
          repeat'(first|(refine zhm fun hb=>?_;try exact zab)|refine zUtp ?_|refine zg2 ?_ ?_|refine kmu e ?_|refine kmu g ?_|intro _)
          all_goals first
            | (exfalso;omega)
            | (refine⟨n+1,by omega,by omega,?_⟩
               refine⟨rfl,?_,?_,rfl⟩
               repeat'(first|exact ze3|refine ze2 ?_ ?_|refine ze4 ?_|exact ze5|fail)
               all_goals exact zp (by first|rfl|rw[c]))
        | some r'=>
          rw[o]at g c
          dsimp only at c
          by_cases y:x.1=now
          · rw[if_pos y]at c
            repeat'(first|(refine zhm fun hb=>?_;try exact zab)|refine zUt ?_|refine zg2 ?_ ?_|(apply YV;first|(fail))|refine zln fun _=>?_|refine zop ?_|refine kmu e ?_|refine kmu g ?_|fail)
            all_goals first
              | (exfalso;omega)
              | (refine⟨n+1,by omega,by omega,?_⟩
                 refine⟨rfl,?_,?_,rfl⟩
                 repeat'(first|exact ze3|refine ze2 ?_ ?_|refine ze4 ?_|exact ze5|fail)
                 all_goals exact zp (by first|rfl|(rw[c];exact XX _ ⟨_,_,_⟩)|(rw[c];done)|(rw[c];rfl)))
          · rw[if_neg y]at c
            repeat'(first|(refine zhm fun hb=>?_;try exact zab)|refine zUt ?_|refine zg2 ?_ ?_|(apply YV;first|(fail))|refine zln fun _=>?_|refine zop ?_|refine kmu e ?_|refine kmu g ?_|fail)
            all_goals first
              | (exfalso;omega)
              | (refine⟨n+1,by omega,by omega,?_⟩
                 refine⟨rfl,?_,?_,rfl⟩
                 repeat'(first|exact ze3|refine ze2 ?_ ?_|refine ze4 ?_|exact ze5|fail)
                 all_goals exact zp (by first|rfl|(rw[c];exact XX _ ⟨_,_,_⟩)|(rw[c];done)|(rw[c];rfl)))
  · obtain rfl:n=js.length:=by omega
    rw[Xal]at *
    repeat'(first|(refine zhm fun hb=>?_;try exact zab)|refine zUrp ?_|refine zg2 ?_ ?_|intro _)
    show AWp _ _ _ _
    refine Qp 41 rfl ?_
    show AWp _ _ _ _
    refine Qp 42 rfl ?_
    exact zDR
theorem QwS{r:Jn}{now depth:Int}{l:List Job}(hr:Q6 r)(hq:Jg l)(hnw:0<=now/\now<=1000000000)(hd:0<=depth/\depth<=60):MCalls Tryz.prog 123 [Ws r,zI now,zL (jobE l),zI depth] [] (fun _:Unit=>True) (fun _=>[.row 0,.row 1,.d (.b true)]) (fun _=>[]) (fun _=>[(0,.row 127 (QbM (Vg r now depth (ordJ l)).2.1) true),(1,.row 127 (QbM (Vg r now depth (ordJ l)).2.2) true)]):=by
  refine zMC func123 fun w0 Z O=>?_
  have ag:=hq.len
  have c1:=Qde hr
  have z:=Qih (l:=l) (by omega)
  rw[show Yz l=true from pB_t.2 hq]at z
  have c3:=W7 (x:=now)
  rw[show inB now 0 1000000000=true from J4.mpr hnw]at c3
  have w:=Qwa hq
  have m:∀x∈ordJ l,Qm x=true:=fun x hx=>hq.ok x (Qgz.1 hx)
  have u:=Wb l
  generalize ordJ l=js at w m u ⊢
  have af:=Qj js
  repeat'(first|(refine zhm fun hb=>?_;try exact zab)|refine zUtp ?_|refine zg2 ?_ ?_|refine zqj Q5 ?_|refine kmu w ?_|intro _)
  refine Qa (fun(i:Nat)=>⟨99,[(1,zI now),(3,zI depth),(4,.ptr 4 0),(11,.row 39),(12,.row 40),(42,zL (jobE js)),(43,zI (js.length:Nat)),(44,zI i)],[(4,.box 180 (QbV (Vg r now depth (js.take i)).1)),(39,.row 127 (QbM (Vg r now depth (js.take i)).2.1) true),(40,.row 127 (QbM (Vg r now depth (js.take i)).2.2) true)]⟩) (fun i=>i<=js.length) (fun i=>js.length-i) 0 (by exact Xae _) ?_ ?_
  · exact zll
  intro n f
  have h:=QpK (r:=r) (now:=now) (depth:=depth) (l:=js) hr n f
  by_cases k:n<js.length
  · have c:=X8 (r:=r) (now:=now) (depth:=depth) k
    have t:=m _ (QE k)
    generalize Vg r now depth (js.take n)=q at h c ⊢
    have ad:=Yd q.2.1
    have ae:=Yd q.2.2
    have v:=h.len
    rw[Xah]at v
    unfold Qiy at c
    have e:=Qga (j:=nth js n) (a:=now) h.room t hnw
    cases p:earO q.1 (nth js n) now with
    | none=>
      rw[p]at e c
      dsimp only at c
      repeat'(first|(refine zhm fun hb=>?_;try exact zab)|refine zUtp ?_|refine zg2 ?_ ?_|refine kmu e ?_|intro _)
      refine⟨n+1,by omega,by omega,?_⟩
      refine⟨rfl,?_,?_,rfl⟩
      repeat'(first|exact ze3|refine ze2 ?_ ?_|refine ze4 ?_|exact ze5|fail)
      all_goals exact zp (by first|rfl|rw[c])
    | some x=>
      rw[p]at e
      obtain⟨ah,ai⟩:=Qi1 h.room t hnw p
      rw[p]at c
      dsimp only at c
      by_cases s:now<x.1/\depth<=q.2.2.length
      · rw[if_pos s]at c
        obtain⟨ab,ac⟩:=s
        repeat'(first|(refine zhm fun hb=>?_;try exact zab)|refine zUtp ?_|refine zg2 ?_ ?_|refine kmu e ?_|intro _)
        refine⟨n+1,by omega,by omega,?_⟩
        refine⟨rfl,?_,?_,rfl⟩
        repeat'(first|exact ze3|refine ze2 ?_ ?_|refine ze4 ?_|exact ze5|fail)
        all_goals exact zp (by first|rfl|rw[c])
      · rw[if_neg s]at c
        have g:=QoO (j:=nth js n) (a:=x.1) (l:=x.2) h.room t (by omega) (by omega)
        cases o:resO q.1 (nth js n) x.1 (x.1+(nth js n).wall) x.2 with
        | none=>
          rw[o]at g c
          dsimp only at c
          repeat'(first|(refine zhm fun hb=>?_;try exact zab)|refine zUtp ?_|refine zg2 ?_ ?_|refine kmu e ?_|(refine km [52] (g) rfl rfl (fun i f=>?_);try dsimp only at f)|intro _)
          all_goals first
            | (exfalso;omega)
            | (refine⟨n+1,by omega,by omega,?_⟩
               refine⟨rfl,?_,?_,rfl⟩
               repeat'(first|exact ze3|refine ze2 ?_ ?_|refine ze4 ?_|exact ze5|fail)
               all_goals exact zp (by first|rfl|rw[c]))
        | some r'=>
          rw[o]at g c
          dsimp only at c
          by_cases y:x.1=now
          · rw[if_pos y]at c
            repeat'(first|(refine zhm fun hb=>?_;try exact zab)|refine zUt ?_|refine zg2 ?_ ?_|(apply YV;first|(refine VI rfl rfl rfl ⟨rfl,rfl,rfl⟩ rfl rfl rfl rfl rfl rfl rfl rfl (QV fun _=>rfl) rfl rfl rfl rfl rfl ?_)|(refine Yb rfl rfl rfl rfl rfl rfl rfl rfl ⟨rfl,rfl,rfl⟩ (Yd _) (rfl:_=1) (by omega) rfl rfl ?_))|refine zln fun _=>?_|refine zop ?_|refine kmu e ?_|(refine km [52] (g) rfl rfl (fun i f=>?_);try dsimp only at f)|fail)
            all_goals first
              | (exfalso;omega)
              | (refine⟨n+1,by omega,by omega,?_⟩
                 refine⟨rfl,?_,?_,rfl⟩
                 repeat'(first|exact ze3|refine ze2 ?_ ?_|refine ze4 ?_|exact ze5|fail)
                 all_goals exact zp (by first|rfl|(rw[c];exact XX _ ⟨_,_,_⟩)|(rw[c];done)|(rw[c];rfl)))
          · rw[if_neg y]at c
            repeat'(first|(refine zhm fun hb=>?_;try exact zab)|refine zUt ?_|refine zg2 ?_ ?_|(apply YV;first|(refine VI rfl rfl rfl ⟨rfl,rfl,rfl⟩ rfl rfl rfl rfl rfl rfl rfl rfl (QV fun _=>rfl) rfl rfl rfl rfl rfl ?_)|(refine Yb rfl rfl rfl rfl rfl rfl rfl rfl ⟨rfl,rfl,rfl⟩ (Yd _) (rfl:_=1) (by omega) rfl rfl ?_))|refine zln fun _=>?_|refine zop ?_|refine kmu e ?_|(refine km [52] (g) rfl rfl (fun i f=>?_);try dsimp only at f)|fail)
            all_goals first
              | (exfalso;omega)
              | (refine⟨n+1,by omega,by omega,?_⟩
                 refine⟨rfl,?_,?_,rfl⟩
                 repeat'(first|exact ze3|refine ze2 ?_ ?_|refine ze4 ?_|exact ze5|fail)
                 all_goals exact zp (by first|rfl|(rw[c];exact XX _ ⟨_,_,_⟩)|(rw[c];done)|(rw[c];rfl)))
  · obtain rfl:n=js.length:=by omega
    rw[Xal]at *
    repeat'(first|(refine zhm fun hb=>?_;try exact zab)|refine zUrp ?_|refine zg2 ?_ ?_|intro _)
    show AWp _ _ _ _
    refine QA ?_
    apply Qs
    exact zm () [39,40] trivial zae zae zae
end
end Go.Proofs.YtkdniahincpmaaaGreat
