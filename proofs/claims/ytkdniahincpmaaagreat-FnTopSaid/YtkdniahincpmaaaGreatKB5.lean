/-
  The walk over abstract states: steps that take several objects and leave others, so that a row may come to own the slices within its elements.
-/
import Derived.Test.YtkdniahincpmaaaGreatKB4
set_option maxRecDepth 100000
set_option maxHeartbeats 16000000
namespace Go.Proofs.YtkdniahincpmaaaGreat
open Go Go.RowKit
section

def Vm(del:Nat->Bool)(p:Nat->Bool)(en:List Ent):List Ent:=(en.filter (fun y=>!del y.nm)).map (Ent.cut p)
section swap
variable {P:Program} {w0:World} {f:Nat->Bool} {Z:ZV f} {O:Nat->Prop} {en:List Ent} {w w':World} {del:Nat->Bool} {ys:List Ent} {p:Nat->Bool}
theorem ZK{y:Ent}(hy:y∈Vm del p en):∃z∈en,del z.nm=false/\y=z.cut p:=by
 simp only[Vm,Xaf,Xay,Xba]at hy
 obtain⟨z,⟨a,b⟩,rfl⟩:=hy
 exact⟨z,a,b,rfl⟩
theorem QpG{z:Ent}(hz:z∈en)(ho:del z.nm=false):z.cut p∈Vm del p en:=by
 simp only[Vm,Xaf,Xay,Xba]
 exact⟨z,⟨hz,ho⟩,rfl⟩
structure QcM {f:Nat->Bool} (P:Program) (w0:World) (Z:ZV f) (O:Nat->Prop) (en:List Ent) (w w':World) (del:Nat->Bool) (ys:List Ent) (p:Nat->Bool):Prop where
 mem:Mem P w0 Z O en w
 hp:∀n,p n=false->del n=true
 hk:∀x∈en,del x.nm=true->p x.nm=true->∃y∈ys,Like x y
 os:w'.os=w.os
 tape:w'.tape=w.tape
 output:w'.output=w.output
 hsz:w.heap.size<=w'.heap.size
 hS:∀b,b<w.heap.size->(∀x∈en,del x.nm=true->¬x.hd b)->Same w w' b
 hb:∀y∈ys,∀b,y.hd b->w.heap.size<=b\/∃x∈en,del x.nm=true/\x.hd b
 nm:∀y∈ys,∀x∈en,del x.nm=false->x.nm≠y.nm
 nd:(ys.map Ent.nm).Nodup
 ap:ys.Pairwise fun x y=>∀b,x.hd b->¬y.hd b
 fx:∀y∈ys,Z.fx y.nm y.val
variable (h:QcM P w0 Z O en w w' del ys p)
include h
theorem QcM.imm{b:Nat}(hi:Imm w0 Z O en w b):Imm w0 Z O (ys++Vm del p en) w' b:=by
 refine⟨hi.1,XaQ hi.2.1 h.hsz,fun y hy=>?_⟩
 rcases Xag.1 hy with hy|hy
 ·intro hb
  rcases h.hb y hy b hb with h1|⟨x,hx,_,h1⟩
  ·have:=hi.2.1;omega
  ·exact hi.2.2 x hx h1
 ·obtain⟨z,a,_,rfl⟩:=ZK hy
  exact fun hb=>hi.2.2 z a ((Ent.hd_cut p z b).1 hb)
theorem QcM.same{b:Nat}(hi:Imm w0 Z O en w b):Same w w' b:=h.hS b hi.2.1 (fun x hx _=>hi.2.2 x hx)
theorem QcM.like:∀x∈en,p x.nm=true->∃y∈ys++Vm del p en,Like x y:=by
 intro x c a
 cases b:del x.nm with
 | true=>
  obtain⟨y,e,d⟩:=h.hk x c b a
  exact⟨y,Xau _ e,d⟩
 | false=>exact⟨x.cut p,Xax _ (QpG c b),rfl,rfl,AO.cut_isRow p x.ao,AO.cut_lens p x.ao⟩
theorem QcM.shows{v:AV}{u:Value}(hv:v.shows w en (Imm w0 Z O en w) u):(v.cut p).shows w' (ys++Vm del p en) (Imm w0 Z O (ys++Vm del p en) w') u:=
 AV.shows_cut h.hsz (fun _ hb=>h.same hb) (fun _ hb=>h.imm hb) h.like v u hv
theorem QcM.done(hok:∀y∈ys,EntOk P (Frs w0 O) w' (ys++Vm del p en) (Imm w0 Z O (ys++Vm del p en) w') y):Mem P w0 Z O (ys++Vm del p en) w':=by
 have m:=h.mem
 have d:∀y∈en,del y.nm=false->∀b,y.hd b->Same w w' b:=fun y a hn b hb=>
  h.hS b ((m.ok y a).lth hb).1 (fun x hx ho hb'=>m.hd_ne a hx (fun e=>by rw[e,ho]at hn;cases hn) hb hb')
 have g:(ys++Vm del p en).Pairwise fun x y=>∀b,x.hd b->¬y.hd b:=by
  rw[Xbj]
  refine⟨h.ap,Xa1 _ (fun x y hxy b h1 h2=>hxy b ((Ent.hd_cut p x b).1 h1) ((Ent.hd_cut p y b).1 h2)) (Xa4 XaE m.blks),fun y a q j b hb hbq=>?_⟩
  obtain⟨z,f,c,rfl⟩:=ZK j
  have i:=(Ent.hd_cut p z b).1 hbq
  rcases h.hb y a b hb with h1|⟨x,hx,hxo,h1⟩
  ·have:=((m.ok z f).lth i).1;omega
  ·exact m.hd_ne hx f (fun e=>by rw[<-e,hxo]at c;cases c) h1 i
 refine⟨h.os.trans m.os,h.tape.trans m.tape,h.output.trans m.output,Xal m.size h.hsz,?_,?_,g,?_,?_,fun y a=>?_⟩
 ·intro b hb k
  refine(h.hS b (XaQ hb m.size) (fun x hx _ hbx=>?_)).trans (m.old b hb k)
  rcases((m.ok x hx).lth hbx).2 with h1|h1
  ·exact k h1
  ·omega
 ·rw[XaG,Xbs]
  refine⟨h.nd,?_,fun n hn n' hn' e=>?_⟩
  ·have:(Vm del p en).map Ent.nm=(en.filter (fun y=>!del y.nm)).map Ent.nm:=by
    simp only[Vm,XaV]
    rfl
   rw[this]
   exact Xbu (XbH _ XaE) m.names
  ·subst e
   obtain⟨y,a,l⟩:=Xaf.1 hn
   obtain⟨q,j,o⟩:=Xaf.1 hn'
   obtain⟨z,f,c,rfl⟩:=ZK j
   exact h.nm y a z f c (o.trans l.symm)
 ·intro y a
  rcases Xag.1 a with a|a
  ·exact hok y a
  ·obtain⟨z,f,c,rfl⟩:=ZK a
   exact(m.ok z f).mono h.hsz (fun _ hb=>h.same hb) (fun _ hb=>h.imm hb) (fun _ hb=>hb) (d z f c) h.like
 ·exact g.imp fun hxy h1 h2 b hb hb'=>hxy b (.inr ⟨h1,hb⟩) (.inr ⟨h2,hb'⟩)
 ·rcases Xag.1 a with a|a
  ·exact h.fx y a
  ·obtain⟨z,f,_,rfl⟩:=ZK a
   exact m.fix z f
end swap
def Wi(del p:Nat->Bool)(ob:List (Nat×AO)):List (Nat×AO):=(ob.filter (fun y=>!del y.1)).map fun y=>(y.1,y.2.cut p)
theorem J2.swap2{X:Cx}{σ:AS}{a:Act}{w w':World}{en:List Ent}(h:J2 X σ a w en){del:Nat->Bool}{ys:List Ent}{p:Nat->Bool}(hs:QcM X.P X.w0 X.Z X.O en w w' del ys p)
  (hok:∀y∈ys,EntOk X.P (Frs X.w0 X.O) w' (ys++Vm del p en) (IM X (ys++Vm del p en) w') y) :
  J2 X ⟨σ.nt,cutS p σ.sl,ys.map Ent.key++Wi del p σ.ob⟩ a w' (ys++Vm del p en):=by
 refine⟨hs.done hok,?_,h.defers,h.size,fun t=>?_⟩
 ·rw[XaG]
  refine Xck _ ?_
  have e:(Vm del p en).map Ent.key=Wi del p (en.map Ent.key):=by
   simp only[Wi,Vm,XaV,XbP]
   rfl
  rw[e]
  exact(h.ob.filter _).map _
 ·simp only[W1]
  exact hs.shows (h.slots t)

theorem QiF{w:World}:∀{ds:List D} {us:List Value} {F:List Nat} {k:Nat} {d:D},repL w ds us F->ds[k]?=some d->
  ∃u G F1 F2,us[k]?=some u/\d.rep w u G/\F=F1++G++F2/\∀w' d' G',w.heap.size<=w'.heap.size->(∀b∈F1++F2,Same w w' b)->D.rep w' d' u G'->repL w' (ds.set k d') us (F1++G'++F2)
 | [],_,_,k,d,_,hk=>by simp at hk
 | d0::ds,us,F,k,d,h,hk=>by
  obtain⟨u,us',F1,F2,rfl,rfl,h1,h2⟩:=h
  cases k with
  | zero=>
   simp only[List.getElem?_cons_zero,Xan]at hk
   subst hk
   refine⟨u,F1,[],F2,rfl,h1,rfl,fun w' d' G' hs hS hd=>?_⟩
   exact⟨u,us',G',F2,rfl,rfl,hd,VM hs _ _ _ h2 (fun b hb=>hS b (by simpa using hb))⟩
  | succ k=>
   obtain⟨v,G,G1,G2,k1,k2,rfl,k3⟩:=QiF h2 (k:=k) (by simpa using hk)
   refine⟨v,G,F1++G1,G2,by simpa using k1,k2,by simp,fun w' d' G' hs hS hd=>?_⟩
   refine⟨u,us',F1,G1++G'++G2,rfl,by simp,D.rep_mono hs _ _ _ h1 (fun b hb=>hS b (by simp[hb])),k3 w' d' G' hs (fun b hb=>hS b ?_) hd⟩
   rcases List.mem_append.1 hb with hb|hb <;> simp[hb]
theorem Qic{w:World}{z:Nat}:∀{es:List (List D)} {us:List Value} {F:List Nat} {i k:Nat} {el:List D} {d:D},repE w es us F->(∀e∈es,e.length=z)->es[i]?=some el->el[k]?=some d->
  ∃u G F1 F2,us[i*z+k]?=some u/\d.rep w u G/\F=F1++G++F2/\∀w' d' G',w.heap.size<=w'.heap.size->(∀b∈F1++F2,Same w w' b)->D.rep w' d' u G'->repE w' (es.set i (el.set k d')) us (F1++G'++F2)
 | [],_,_,i,k,el,d,_,_,hi,_=>by simp at hi
 | e::es,us,F,i,k,el,d,h,hz,hi,hk=>by
  obtain⟨u1,u2,F1,F2,rfl,rfl,h1,h2⟩:=h
  have hl1:u1.length=z:=by rw[QS h1];exact hz e Xac
  cases i with
  | zero=>
   simp only[List.getElem?_cons_zero,Xan]at hi
   subst hi
   obtain⟨v,G,G1,G2,k1,k2,rfl,k3⟩:=QiF h1 hk
   refine⟨v,G,G1,G2++F2,?_,k2,by simp,fun w' d' G' hs hS hd=>?_⟩
   ·rw[Xbq,Xa8,List.getElem?_append_left (List.getElem?_eq_some_iff.1 k1).1]
    exact k1
   ·refine⟨u1,u2,G1++G'++G2,F2,rfl,by simp,k3 w' d' G' hs (fun b hb=>hS b ?_) hd,QX hs _ _ _ h2 (fun b hb=>hS b (by simp[hb]))⟩
    rcases List.mem_append.1 hb with hb|hb <;> simp[hb]
  | succ i=>
   simp only[List.getElem?_cons_succ]at hi
   obtain⟨v,G,G1,G2,k1,k2,rfl,k3⟩:=Qic h2 (fun x hx=>hz x (Xae _ hx)) hi hk
   refine⟨v,G,F1++G1,G2,?_,k2,by simp,fun w' d' G' hs hS hd=>?_⟩
   ·rw[show(i+1)*z+k=u1.length+(i*z+k) by rw[hl1,Xa2];omega,List.getElem?_append_right (by omega),Nat.add_sub_cancel_left]
    exact k1
   ·refine⟨u1,u2,F1,G1++G'++G2,rfl,by simp,VM hs _ _ _ h1 (fun b hb=>hS b (by simp[hb])),k3 w' d' G' hs (fun b hb=>hS b ?_) hd⟩
    rcases List.mem_append.1 hb with hb|hb <;> simp[hb]

def Qoe:List AV->Option (List AV×Nat×List AV)
 | []=>none
 | x::xs=>match x with
  | .row q=>some ([],q,xs)
  | x=>match Qoe xs with
   | some (a,q,b)=>some (x::a,q,b)
   | none=>none
theorem Qmv:∀{xs pre post:List AV} {q:Nat},Qoe xs=some (pre,q,post)->xs=pre++.row q::post
 | [],_,_,_,h=>by cases h
 | x::xs,pre,post,q,h=>by
  have key:∀y:AV,(match Qoe xs with
   | some (a,q,b)=>some (y::a,q,b)
   | none=>none)=some (pre,q,post)->y::xs=pre++.row q::post:=fun y hy=>by
   split at hy
   ·rename_i a q' b hr
    injection hy with hy
    injection hy with e1 hy
    injection hy with e2 e3
    subst e1;subst e2;subst e3
    rw[Qmv hr];rfl
   ·cases hy
  cases x with
  | row q'=>
   simp only[Qoe,Xan,XbT]at h
   obtain⟨rfl,rfl,rfl⟩:=h
   rfl
  | _=>exact key _ h
theorem Qc2{w:World}{en:List Ent}{I:Nat->Prop}{r:AV}{post:List AV}:∀{pre:List AV} {us:List Value},Qm w en I (pre++r::post) us->∃u1 u u2,us=u1++u::u2/\Qm w en I pre u1/\r.shows w en I u/\Qm w en I post u2
 | [],us,h=>by
  obtain⟨u,us',rfl,h1,h2⟩:=h
  exact⟨[],u,us',rfl,rfl,h1,h2⟩
 | x::pre,us,h=>by
  obtain⟨u,us',rfl,h1,h2⟩:=h
  obtain⟨u1,v,u2,rfl,h3,h4,h5⟩:=Qc2 h2
  exact⟨u::u1,v,u2,rfl,⟨u,u1,rfl,h1,h3⟩,h4,h5⟩
theorem Qtr{X:Cx}{σ:AS}{a:Act}{w:World}{en:List Ent}(h:J2 X σ a w en){q:Nat}{e:TypeId}{es:List (List D)}{dq:Bool}(hq:Qn σ.ob q=some (.row e es dq))(hfl:WC es=true) :
  ∃y∈en,y.nm=q/\y.ao=.row e es dq/\∃F,(D.sl es).rep w y.val F/\F.Nodup/\(∀b∈F,blk y.val=some b)/\(es≠[]->∃z us,(X.P.info? e).map (·.size)=some z/\0<z/\(∀el∈es,el.length=z)/\w.ownsRow 0 e z y.val es.length us):=by
 obtain⟨y,k,i,d,F,j,s⟩:=QbM h hq
 have c:=h.mem.ok y k
 unfold EntOk at c
 rw[d]at c
 obtain⟨z,us,t,u,v,x,k4,k5,k6,k7⟩:=c
 have g:=YK k4 (Ys hfl)
 refine⟨y,k,i,d,F,j,?_,fun b hb=>(s b hb).resolve_left (by rw[g];simp),fun _=>⟨z,us,t,u,x,v⟩⟩
 obtain⟨A,l,z',ab,F',_,_,_,_,_,m,r⟩:=j
 have f:=YK m (Ys hfl)
 subst f
 rcases r with ⟨_,rfl⟩|⟨_,b,o,_,_,rfl,_⟩ <;> simp
def isPQ(p q:Nat):Nat->Bool:=fun n=>bif Nat.beq n p then true else Nat.beq n q
theorem YP{p q n:Nat}:isPQ p q n=true↔n=p\/n=q:=by
 unfold isPQ
 cases h:Nat.beq n p with
 | true=>simp[(Qi n p).1 h]
 | false=>
  simp only[cond_false,Qi]
  refine⟨.inr,fun h'=>h'.resolve_left fun e=>?_⟩
  rw[(Qi n p).2 e]at h;cases h
section
variable {X:Cx} {σ:AS} {o:Oper} {K:AS->Prop} {t:Nat}
end

theorem EntOk.data{P:Program}{Fr:Nat->Prop}{w:World}{en:List Ent}{I:Nat->Prop}{y:Ent}{e:TypeId}{es:List (List D)}{dp:Bool}(hok:EntOk P Fr w en I y)(hya:y.ao=.row e es dp):∃F,(D.sl es).rep w y.val F/\∀b∈F,(b∈y.fs\/blk y.val=some b):=by
 have i:=fun b hb=>(hok.lt (b:=b) hb).1
 unfold EntOk at hok
 rw[hya]at hok
 obtain⟨z,q,k0,k1,f,o,p,k5,k6,k7⟩:=hok
 obtain⟨A,c,a,k,l,m,r⟩:=J3 f
 by_cases h:es=[]
 ·subst h
  exact⟨[],⟨A,c,z,q,y.fs,a,k,l,m,o,p,.inl ⟨rfl,rfl⟩⟩,by simp⟩
 ·have d:0<es.length:=Xbb.2 h
  obtain⟨g,s⟩:=r d
  subst s
  refine⟨g::y.fs,⟨_,c,z,q,y.fs,a,k,l,m,o,p,.inr ⟨h,g,0,rfl,i g (by rw[a];rfl),rfl,fun j v hj=>?_⟩⟩,fun b hb=>?_⟩
  ·rw[a]at f
   have n:=(List.getElem?_eq_some_iff.1 hj).1
   rw[f.1]at n
   rw[Xa8,f.cellAt j n]
   exact hj
  ·rcases Xai.1 hb with rfl|hb
   ·exact .inr (by rw[a];rfl)
   ·exact .inl hb
theorem QoI{w:World}{es:List (List D)}{u:Value}{F:List Nat}(h:(D.sl es).rep w u F)(hne:es≠[])(hfl:WC es=true):∃b,blk u=some b/\F=[b]:=by
 obtain⟨A,c,z,us,F',rfl,_,_,_,_,d,a⟩:=h
 rcases a with ⟨a,_⟩|⟨_,b,o,rfl,_,rfl,_⟩
 ·exact absurd a hne
 ·rw[YK d (Ys hfl)]
  exact⟨b,rfl,rfl⟩
theorem QeM{α:Type}{z:Nat}:∀{es:List (List α)} {i off:Nat} {el:List α} {d:α},(∀e∈es,e.length=z)->es[i]?=some el->off<z->(es.set i (el.set off d)).flatten=es.flatten.set (i*z+off) d
 | [],i,off,el,d,_,hi,_=>by simp at hi
 | e::es,i,off,el,d,hz,hi,ho=>by
  have he:=hz e Xac
  cases i with
  | zero=>
   simp only[List.getElem?_cons_zero,Xan]at hi
   subst hi
   rw[Xcf,XbJ,XbJ,Xbq,Xa8,List.set_append_left _ _ (by omega)]
  | succ i=>
   simp only[List.getElem?_cons_succ]at hi
   rw[Xcz,XbJ,XbJ,QeM (fun x hx=>hz x (Xae _ hx)) hi ho,Xcm _ _ (by rw[he,Xa2];omega)]
   congr 2
   rw[he,Xa2];omega
section
variable {X:Cx} {σ:AS} {Q:Exit->AS->Prop}
end

section
variable {X:Cx} {σ:AS} {o:Oper} {K:AS->Prop} {t:Nat}
end

theorem QbQ{z:Nat}:∀{n:Nat} {ds:List D},ds.length=n*z->(chunk z n ds).flatten=ds
 | 0,ds,h=>by
  have:ds=[]:=XaD (by simpa using h)
  subst this
  rfl
 | n+1,ds,h=>by
  rw[Xa2,Xcb]at h
  rw[chunk,XbJ,QbQ (by simp;omega),XaK]
def Qhw(p q:Nat):Nat->Bool:=fun n=>!isPQ p q n
theorem QvP{p q n:Nat}(h:Qhw p q n=false):isPQ p q n=true:=by unfold Qhw at h;simpa using h
section
variable {X:Cx} {σ:AS} {o:Oper} {K:AS->Prop} {t:Nat}
theorem J2.addNil{a:Act}{w:World}{en:List Ent}(h:J2 X σ a w en)(n:Nat){e:TypeId}{z:Nat}(hi:(X.P.info? e).map (·.size)=some z)(hz:0<z)(hf:YR X.fre n σ.ob=true):J2 X ⟨σ.nt,σ.sl,(n,.row e [] true)::Wi (fun _=>false) (fun _=>true) σ.ob⟩ a w (⟨n,.row e [] true,.slice none 0 0,[]⟩::Vm (fun _=>false) (fun _=>true) en):=by
 have c:∀x∈en,x.nm≠n:=fun x hx e=>by
  have:hasN n σ.ob=true:=Jf.2 ⟨x.key,h.ob.mem_iff.1 (Xaf.2 ⟨x,hx,rfl⟩),e⟩
  rw[(Ja hf).1]at this;cases this
 have f:QcM X.P X.w0 X.Z X.O en w w (fun _=>false) [⟨n,.row e [] true,.slice none 0 0,[]⟩] (fun _=>true):=by
  refine⟨h.mem,fun n hn=>Bool.noConfusion hn,fun x hx hd _=>Bool.noConfusion hd,rfl,rfl,rfl,Xaj _,fun b _ _=>rfl,fun y hy b hb=>?_,fun y hy x hx _=>?_,by simp,by simp,fun y hy=>?_⟩
  ·obtain rfl:y=_:=by simpa using hy
   rcases hb with hb|⟨_,hb⟩ <;> cases hb
  ·obtain rfl:y=_:=by simpa using hy
   exact c x hx
  ·obtain rfl:y=_:=by simpa using hy
   exact X.Z.lo _ _ (Ja hf).2
 have d:=h.swap2 f (fun y hy=>by
  obtain rfl:y=_:=by simpa using hy
  unfold EntOk
  exact⟨z,[],hi,hz,World.ownsRow_nil w 0 e z,by simp,⟨rfl,rfl⟩,by simp,fun g hg=>by simp[blk]at hg,fun _=>⟨by simp,by simp,NstL.nil ⟨rfl,rfl⟩⟩⟩)
 rw[QeG]at d
 exact d
theorem ZG(t n:Nat){c:Code}{Q:Exit->AS->Prop}(e:TypeId)[te:TI X.P e](hv:look σ.sl t=.nil)(hz:Nat.blt 0 te.size=true)(hf:YR X.fre n σ.ob=true)(h:AWp X c Q ⟨σ.nt,(t,.row n)::σ.sl,(n,.row e [] true)::Wi (fun _=>false) (fun _=>true) σ.ob⟩):AWp X c Q σ:=fun a w ⟨en,hr⟩=>by
 have b:=hr.addNil n te.sized (JK hz) hf
 refine h a w ⟨_,b.mem,b.ob,b.defers,b.size,fun s=>?_⟩
 simp only[Q1]
 split
 ·rename_i d
  subst d
  have:=hr.slots t
  rw[hv]at this
  rw[show a.tmps.getD t undef=.slice none 0 0 from this]
  exact⟨_,Xac,rfl,rfl,rfl⟩
 ·exact b.slots s
theorem VG{T e eq:TypeId}{len q:Nat}{parts:Array (Nat×Operand)}{cs pre post:List AV}{dpre dpost:List D}{esq es:List (List D)}{dq:Bool}[te:TI X.P e](ho:o.op=.buildSlice T len parts)(hd:o.dst=some t)(hT:JQ X T=some e)(hk:Zi te)(hz1:te.zero.cells.toList.all Value.oneCell'=true)
  (hcs:Qkl te.size (Qgl te.zero len) (σ.evParts parts.toList)=some cs) (hsp:Qoe cs=some (pre,q,post)) (hpre:WU pre=some dpre) (hpost:WU post=some dpost) (hq:Qn σ.ob q=some (.row eq esq dq))
  (hfp:dpre.all D.flat1=true) (hfo:dpost.all D.flat1=true) (hfq:WC esq=true) (hl:Nat.beq (dpre.length+(1+dpost.length)) (len*te.size)=true) (hsm:Nat.ble (len*te.size) 16777216=true) (hes:QeB (chunk te.size len (dpre++.sl esq::dpost)) some=some es) (hf:YR X.fre t σ.ob=true) (ht:Nat.blt t σ.nt=true)
  (hK:K ⟨σ.nt,(t,.row t)::cutS (notN q) σ.sl,(t,.row e es true)::Wi (isPQ q q) (notN q) σ.ob⟩):OpOk X o σ K:=by
 intro a w hr next Q ar
 obtain⟨en,m⟩:=hr
 rw[Qbr]at hes
 injection hes with hes
 subst hes
 have hu:=QY hT
 obtain⟨qi,q1,q2,q3,q4⟩:=te.parts
 have aa:=JK hk.pos
 have a0:te.zero.cells.size=te.size:=(Qi _ _).1 hk.zero
 have k:((Array.range (len*te.size)).map (te.zero.cells[· % te.zero.cells.size]!)).toList=(List.replicate len te.zero.cells.toList).flatten:=by
  have h0:=Xv te.zero.cells len (by omega)
  rw[show len*te.zero.cells.size=len*te.size by rw[a0]]at h0
  exact h0
 obtain⟨aw,ax⟩:=Zw m parts.toList
 obtain⟨r,r1,r2,r3⟩:=Qdw (vs:=parts.toList.map fun x=>(x.1,a.eval x.2)) (cells:=(Array.range (len*te.size)).map (te.zero.cells[· % te.zero.cells.size]!)) m.mem hcs
  (by rw[k];exact X3 te.zero len) (by rw[k];exact Qfo hz1 len) aw ax
 obtain⟨yq,z,ab,a9,Fq,ap,an,ac,ao⟩:=Qtr m hq hfq
 rw[Qmv hsp]at r2
 obtain⟨u1,u,u2,c,s1,s2,s3⟩:=Qc2 r2
 obtain⟨F1,f1,_⟩:=Wu hpre s1
 obtain⟨F2,f2,_⟩:=Wu hpost s3
 have:=Yk f1 (JT hfp);subst this
 have:=Yk f2 (JT hfo);subst this
 have i:u=yq.val:=by
  obtain⟨y',az,g1,_,g3⟩:=s2
  have:=m.mem.ent_unique az z (g1.trans ab.symm)
  rw[g3,this]
 subst i
 have p:repL w (dpre++D.sl esq::dpost) (u1++yq.val::u2) Fq:=by
  have:=YG f1 (show repL w (D.sl esq::dpost) (yq.val::u2) Fq from⟨_,_,Fq,[],rfl,by simp,ap,f2⟩)
  simpa using this
 rw[<-c]at p
 have av:NstL X.P w (dpre++D.sl esq::dpost) r.toList:=by
  rw[c]
  refine NstL.app (QS f1) (.flat (JT hfp)) ?_
  intro j aj u' hj i af
  cases j with
  | zero=>
   simp only[List.getElem?_cons_zero,Xan,D.sl.injEq]at hj i
   subst hj;subst i
   obtain⟨zq,vq,a1,a2,a3,a4⟩:=ao af
   exact⟨eq,zq,vq,a1,a2,a3,a4⟩
  | succ j=>
   simp only[List.getElem?_cons_succ]at hj i
   exact(NstL.flat (P:=X.P) (w:=w) (us:=u2) (JT hfo)) j aj u' hj i af
 have d:(dpre++D.sl esq::dpost).length=len*te.size:=by rw[<-(Qi _ _).1 hl];simp;omega
 obtain⟨g1,g2,g3⟩:=QdB d p
 have ad:r.toList.length=len*te.size:=by rw[QS p];exact d
 have bh:len<=16777216:=by
  have:=XaT hsm
  exact Xal (Xcg len aa) this
 let w':=w.alloc (.cells r e)
 have f:Ext w w':=Ext.alloc_ w _
 have l:(execOp a.eval o).run X.P w=.ok (.value (.slice (some ⟨w.heap.size,0,none⟩) len len)) w':=by
  have aq:parts.map (fun(x:Nat×Operand)=>(x.1,a.eval x.2))=(parts.toList.map fun x=>(x.1,a.eval x.2)).toArray:=by cases parts;simp
  have ag:¬(len*te.size>2 ^ 24):=by have:=XaT hsm;omega
  have l:(Instr.buildSlice T len (parts.map fun(x:Nat×Operand)=>(x.1,a.eval x.2))).run X.P w=.ok (.slice (some ⟨w.heap.size,0,none⟩) len len) (w.alloc (.cells r e)):=by
   rw[aq]
   have h0:len*te.size≠0:=by rw[<-d];simp
   exact run_buildSlice w T e len _ r qi te.zero hu q1 q2 (by rw[q3];exact ag) (by rw[q3];exact h0) (by rw[q3];exact r1)
  simp only[execOp,ho,Sem.run_bind,l,Result.andThen]
  rfl
 let x':Ent:=⟨t,.row e (chunk te.size len (dpre++D.sl esq::dpost)) true,.slice (some ⟨w.heap.size,0,none⟩) len len,Fq⟩
 have au:∀x∈en,x.nm≠t:=fun x f e=>by
  have:hasN t σ.ob=true:=Jf.2 ⟨x.key,m.ob.mem_iff.1 (Xaf.2 ⟨x,f,rfl⟩),e⟩
  rw[(Ja hf).1]at this;cases this
 have ay:isPQ q q yq.nm=true:=YP.2 (.inl ab)
 have hs:QcM X.P X.w0 X.Z X.O en w w' (isPQ q q) [x'] (notN q):=by
  refine⟨m.mem,fun n hn=>?_,fun x f hd hpx=>?_,f.os,f.tape,f.output,f.size,fun b hb _=>f.block b hb,fun y hy b hb=>?_,fun y hy x f _=>?_,by simp,by simp,fun y hy=>?_⟩
  ·refine YP.2 (.inl ?_)
   unfold notN at hn
   exact(Qi _ _).1 (by simpa using hn)
  ·rw[(YP.1 hd).elim id id,Xk]at hpx
   cases hpx
  ·obtain rfl:y=x':=by simpa using hy
   rcases hb with hb|⟨_,hb⟩
   ·have:some w.heap.size=some b:=hb
    injection this with this
    exact .inl (XbY this)
   ·exact .inr ⟨yq,z,ay,.inl (ac b hb)⟩
  ·obtain rfl:y=x':=by simpa using hy
   exact au x f
  ·obtain rfl:y=x':=by simpa using hy
   exact X.Z.lo _ _ (Ja hf).2
 have s:∀b∈Fq,b<w.heap.size:=fun b hb=>((m.mem.ok yq z).lt (ac b hb)).1
 have h9:=m.swap2 hs (fun y hy=>by
  obtain rfl:y=x':=by simpa using hy
  unfold EntOk
  refine⟨te.size,r.toList,te.sized,aa,?_,g2,QX f.size _ _ _ g1 (fun b hb=>f.block b (s b hb)),fun h=>Bool.noConfusion h,fun g hg=>?_,fun _=>⟨an,fun b hb=>⟨((m.mem.ok yq z).lt (ac b hb)).2,XaQ (s b hb) f.size,fun hq=>?_⟩,?_⟩⟩
  ·rw[g3]
   refine⟨ad,.inr ⟨w.heap.size,len,r,rfl,Xad _,heap_alloc_new w _,Xaj _,by unfold maxLen;omega,by rw[<-XaF];exact ad,by rw[<-ad];exact Xak⟩⟩
  ·have:some w.heap.size=some g:=hg
   injection this with this
   subst this
   exact .inr m.mem.size
  ·have:some w.heap.size=some b:=hq
   injection this with this
   have:=s b hb
   omega
  ·rw[QbQ d]
   exact av.same p (fun b hb=>f.block b (s b hb)))
 unfold Oper.wp
 rw[l,Oper.upon_value,hd]
 exact ar _ _ _ hK ⟨_,h9.put (t:=t) (v:=.row t) (u:=.slice (some ⟨w.heap.size,0,none⟩) len len) ⟨x',Xac,rfl,rfl,rfl⟩ ht⟩
theorem J8{s x:Operand}{T e:TypeId}{p q:Nat}{es es2:List (List D)}{n1 n2:Nat}[te:TI X.P e](ho:o.op=.call { callee:=.builtin .append,args:=#[s,x],argTypes:=#[T,T] })(hd:o.dst=some t)(hT:JQ X T=some e)
  (hs:σ.ev s=.row p) (hp:Qn σ.ob p=some (.row e es true)) (hx:σ.ev x=.row q) (hq:Qn σ.ob q=some (.row e es2 true)) (hpq:Nat.beq p q=false) (hk:Zi te) (hn1:es.length=n1) (hn2:es2.length=n2) (hb:n1+n2<=1099511627776) (hlo:X.fre p=true) (ht:Nat.blt t σ.nt=true)
  (hK:K ⟨σ.nt,(t,.row p)::cutS (Qhw p q) σ.sl,(p,.row e (es++es2) true)::Wi (isPQ p q) (Qhw p q) σ.ob⟩):OpOk X o σ K:=by
 intro a w hr next Q hn
 obtain⟨en,i⟩:=hr
 have av:p≠q:=fun e=>by rw[(Qi p q).2 e]at hpq;cases hpq
 have hu:=QY hT
 obtain⟨y,hy,aj,ai⟩:=i.ent hp
 have ag:=i.mem.ok y hy
 unfold EntOk at ag
 rw[ai]at ag
 obtain⟨z,us,k0,k1,k2,k3,k4,k5,k6,k7⟩:=ag
 obtain⟨be,al,bf⟩:=k7 rfl
 obtain⟨yq,r,aa,f⟩:=i.ent hq
 have m:=i.mem.ok yq r
 unfold EntOk at m
 rw[f]at m
 obtain⟨zq,am,j0,j1,j2,j3,j4,j5,j6,j7⟩:=m
 obtain⟨ba,ak,bb⟩:=j7 rfl
 obtain⟨qi,q1,q2,q3,q4⟩:=te.parts
 have a8:z=te.size:=by rw[te.sized]at k0;simpa using k0.symm
 subst a8
 have ac:zq=te.size:=by rw[te.sized]at j0;simpa using j0.symm
 subst ac
 obtain⟨k,a6,f1,f2,f3⟩:=QZ i hs
 have:=i.mem.ent_unique a6 hy (f1.trans aj.symm)
 subst this
 obtain⟨y2,a7,f4,f5,f6⟩:=QZ i hx
 have:=i.mem.ent_unique a7 r (f4.trans aa.symm)
 subst this
 obtain⟨A,ao,e1,g2,g3,g4,g5⟩:=J3 j2
 have a1:Rd w te.size A es2.length ao am:=by
  refine⟨j2.1,g2,⟨by unfold maxLen at g3;omega,g4⟩,fun hn=>?_⟩
  obtain⟨g,hg⟩:=g5 hn
  subst hg
  refine⟨g,0,rfl,fun j v hj=>?_⟩
  rw[e1]at j2
  have ar:=(List.getElem?_eq_some_iff.1 hj).1
  rw[j2.1]at ar
  rw[Xa8,j2.cellAt j ar]
  exact hj
 have a2:es.length+es2.length<=1099511627776:=by rw[hn1,hn2];exact hb
 obtain⟨v',w',r1,r2,r3,r4⟩:=YZ (P:=X.P) 0 T o.type e qi te.zero te.size te.bytes hu q1 q2 q3 q4 ((Qi _ _).1 hk.zero) k1 k.val es.length us k2 A es2.length ao am a1 (Xz j4)
  (by unfold maxLen;omega) (Xp a2 hk.bytes) (Xad _)
 have ay:(execOp a.eval o).run X.P w=.ok (.value v') w':=by
  unfold execOp
  simp only[ho,resolve,invoke,builtin,Sem.run_bind,Sem.run_pure,Result.andThen_ok,Xbr,Xat,Xbl,f3,f6,e1,r1]
 let x':Ent:=⟨p,.row e (es++es2) true,v',k.fs++y2.fs⟩
 have ac:k.nm≠y2.nm:=by rw[aj,aa];exact av
 have d:∀b,b<w.heap.size->blk k.val≠some b->Same w w' b:=fun b hb hne=>r3.block b hb (by rw[Qhd k2];exact fun e=>hne e.symm)
 have af:isPQ p q k.nm=true:=YP.2 (.inl aj)
 have a3:isPQ p q y2.nm=true:=YP.2 (.inr aa)
 have ap:∀b∈k.fs,Same w w' b:=fun b hb=>d b (al b hb).2.1 (al b hb).2.2
 have ad:∀b∈y2.fs,blk k.val≠some b:=fun b hb e=>i.mem.hd_ne hy r ac (.inl e) (.inr ⟨by rw[f];rfl,hb⟩)
 have aq:∀b∈y2.fs,Same w w' b:=fun b hb=>d b (ak b hb).2.1 (ad b hb)
 have a5:QcM X.P X.w0 X.Z X.O en w w' (isPQ p q) [x'] (Qhw p q):=by
  refine⟨i.mem,fun n hn=>QvP hn,fun x hx hd hpx=>?_,r3.os,r3.tape,r3.output,r3.size,fun b hb hno=>d b hb (fun e=>hno k hy af (.inl e)),fun z hz b hb=>?_,fun z hz x hx hd e=>?_,by simp,by simp,fun z hz=>?_⟩
  ·unfold Qhw at hpx
   rw[hd]at hpx;cases hpx
  ·obtain rfl:z=x':=by simpa using hz
   rcases hb with hb|⟨_,hb⟩
   ·rcases r4 b hb with h|h
    ·exact .inl h
    ·exact .inr ⟨k,hy,af,.inl h⟩
   ·rcases Xag.1 hb with hb|hb
    ·exact .inr ⟨k,hy,af,.inr ⟨by rw[ai];rfl,hb⟩⟩
    ·exact .inr ⟨y2,r,a3,.inr ⟨by rw[f];rfl,hb⟩⟩
  ·obtain rfl:z=x':=by simpa using hz
   rw[YP.2 (.inl e)]at hd;cases hd
  ·obtain rfl:z=x':=by simpa using hz
   exact X.Z.lo _ _ hlo
 have ax:=Yh (QX r3.size _ _ _ k4 ap) (QX r3.size _ _ _ j4 aq)
 have aw:=i.swap2 a5 (fun z hz=>by
  obtain rfl:z=x':=by simpa using hz
  unfold EntOk
  refine⟨te.size,us++am,k0,k1,by rw[Xaa];exact r2,fun l hl=>(Xag.1 hl).elim (k3 l) (j3 l),ax,fun h=>Bool.noConfusion h,fun g hg=>?_,fun _=>⟨?_,fun b hb=>?_,?_⟩⟩
  ·rcases r4 g hg with h|h
   ·exact .inr (Xal i.mem.size h)
   ·exact k6 g h
  ·show(k.fs++y2.fs).Nodup
   rw[Xbs]
   refine⟨be,ba,fun b hb c hc e=>?_⟩
   subst e
   exact i.mem.hd_ne hy r ac (.inr ⟨by rw[ai];rfl,hb⟩) (.inr ⟨by rw[f];rfl,hc⟩)
  ·have ab:Frs X.w0 X.O b/\b<w.heap.size/\blk k.val≠some b:=by
    rcases Xag.1 hb with hb|hb
    ·exact al b hb
    ·exact⟨(ak b hb).1,(ak b hb).2.1,ad b hb⟩
   refine⟨ab.1,XaQ ab.2.1 r3.size,fun hq=>?_⟩
   rcases r4 b hq with h|h
   ·have:=ab.2.1;omega
   ·exact ab.2.2 h
  ·rw[Xcw]
   exact NstL.app (QS (JC k4)) (bf.same (JC k4) ap) (bb.same (JC j4) aq))
 unfold Oper.wp
 rw[ay,Oper.upon_value,hd]
 exact hn _ _ _ hK ⟨_,aw.put (t:=t) (v:=.row p) (u:=v') ⟨x',Xac,rfl,rfl,rfl⟩ ht⟩
end
end
end Go.Proofs.YtkdniahincpmaaaGreat
