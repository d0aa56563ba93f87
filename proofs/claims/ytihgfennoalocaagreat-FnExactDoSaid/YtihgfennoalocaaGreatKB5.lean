/-
  The walk over abstract states: steps that take several objects and leave others, so that a row may come to own the slices within its elements.
-/
import Derived.Test.YtihgfennoalocaaGreatKB4
set_option maxRecDepth 100000
set_option maxHeartbeats 16000000
namespace Go.Proofs.YtihgfennoalocaaGreat
open Go Go.RowKit
section

def WJ(del:Nat->Bool)(p:Nat->Bool)(en:List Ent):List Ent:=(en.filter (fun y=>!del y.nm)).map (Ent.cut p)
section swap
variable {P:Program} {w0:World} {f:Nat->Bool} {Z:ZV f} {O:Nat->Prop} {en:List Ent} {w w':World} {del:Nat->Bool} {ys:List Ent} {p:Nat->Bool}
theorem VX{y:Ent}(hy:y∈WJ del p en):∃z∈en,del z.nm=false/\y=z.cut p:=by
 simp only[WJ,Xad,XaF,Xa6]at hy
 obtain⟨z,⟨h1,h2⟩,rfl⟩:=hy
 exact⟨z,h1,h2,rfl⟩
theorem Qot{z:Ent}(hz:z∈en)(ho:del z.nm=false):z.cut p∈WJ del p en:=by
 simp only[WJ,Xad,XaF,Xa6]
 exact⟨z,⟨hz,ho⟩,rfl⟩
structure X7 {f:Nat->Bool} (P:Program) (w0:World) (Z:ZV f) (O:Nat->Prop) (en:List Ent) (w w':World) (del:Nat->Bool) (ys:List Ent) (p:Nat->Bool):Prop where
 mem:Mem P w0 Z O en w
 hp:∀n,p n=false->del n=true
 hk:∀x∈en,del x.nm=true->p x.nm=true->∃y∈ys,Like x y
 os:w'.os=w.os
 tape:w'.tape=w.tape
 output:w'.output=w.output
 hsz:w.heap.size<=w'.heap.size
 hS:∀b,b<w.heap.size->(∀x∈en,del x.nm=true->¬x.hd b)->Same w w' b
 hb:∀y∈ys,∀b,y.hd b->w.heap.size<=b\/∃x∈en,del x.nm=true/\x.hd b
 nm:∀y∈ys,∀x∈en,del x.nm=false->x.nm≠y.nm
 nd:(ys.map Ent.nm).Nodup
 ap:ys.Pairwise fun x y=>∀b,x.hd b->¬y.hd b
 fx:∀y∈ys,Z.fx y.nm y.val
variable (h:X7 P w0 Z O en w w' del ys p)
include h
theorem X7.imm{b:Nat}(hi:Imm w0 Z O en w b):Imm w0 Z O (ys++WJ del p en) w' b:=by
 refine⟨hi.1,XaL hi.2.1 h.hsz,fun y hy=>?_⟩
 rcases Xag.1 hy with hy|hy
 ·intro hb
  rcases h.hb y hy b hb with h1|⟨x,hx,_,h1⟩
  ·have:=hi.2.1;omega
  ·exact hi.2.2 x hx h1
 ·obtain⟨z,hz,_,rfl⟩:=VX hy
  exact fun hb=>hi.2.2 z hz ((Ent.hd_cut p z b).1 hb)
theorem X7.same{b:Nat}(hi:Imm w0 Z O en w b):Same w w' b:=h.hS b hi.2.1 (fun x hx _=>hi.2.2 x hx)
theorem X7.like:∀x∈en,p x.nm=true->∃y∈ys++WJ del p en,Like x y:=by
 intro x hx hpx
 cases hd:del x.nm with
 | true=>
  obtain⟨y,hy,hl⟩:=h.hk x hx hd hpx
  exact⟨y,Xat _ hy,hl⟩
 | false=>exact⟨x.cut p,Xav _ (Qot hx hd),rfl,rfl,AO.cut_isRow p x.ao,AO.cut_lens p x.ao⟩
theorem X7.shows{v:AV}{u:Value}(hv:v.shows w en (Imm w0 Z O en w) u):(v.cut p).shows w' (ys++WJ del p en) (Imm w0 Z O (ys++WJ del p en) w') u:=
 AV.shows_cut h.hsz (fun _ hb=>h.same hb) (fun _ hb=>h.imm hb) h.like v u hv
theorem X7.done(hok:∀y∈ys,EntOk P (Frs w0 O) w' (ys++WJ del p en) (Imm w0 Z O (ys++WJ del p en) w') y):Mem P w0 Z O (ys++WJ del p en) w':=by
 have m:=h.mem
 have hother:∀y∈en,del y.nm=false->∀b,y.hd b->Same w w' b:=fun y hy hn b hb=>
  h.hS b ((m.ok y hy).lth hb).1 (fun x hx ho hb'=>m.hd_ne hy hx (fun e=>by rw[e,ho]at hn;cases hn) hb hb')
 have hbl:(ys++WJ del p en).Pairwise fun x y=>∀b,x.hd b->¬y.hd b:=by
  rw[Xbc]
  refine⟨h.ap,XaW _ (fun x y hxy b h1 h2=>hxy b ((Ent.hd_cut p x b).1 h1) ((Ent.hd_cut p y b).1 h2)) (Xa0 XaE m.blks),fun y hy q hq b hb hbq=>?_⟩
  obtain⟨z,hz,hzn,rfl⟩:=VX hq
  have hbz:=(Ent.hd_cut p z b).1 hbq
  rcases h.hb y hy b hb with h1|⟨x,hx,hxo,h1⟩
  ·have:=((m.ok z hz).lth hbz).1;omega
  ·exact m.hd_ne hx hz (fun e=>by rw[<-e,hxo]at hzn;cases hzn) h1 hbz
 refine⟨h.os.trans m.os,h.tape.trans m.tape,h.output.trans m.output,Xao m.size h.hsz,?_,?_,hbl,?_,?_,fun y hy=>?_⟩
 ·intro b hb hO
  refine(h.hS b (XaL hb m.size) (fun x hx _ hbx=>?_)).trans (m.old b hb hO)
  rcases((m.ok x hx).lth hbx).2 with h1|h1
  ·exact hO h1
  ·omega
 ·rw[XaI,Xbe]
  refine⟨h.nd,?_,fun n hn n' hn' e=>?_⟩
  ·have:(WJ del p en).map Ent.nm=(en.filter (fun y=>!del y.nm)).map Ent.nm:=by
    simp only[WJ,XaS]
    rfl
   rw[this]
   exact Xbs (XbF _ XaE) m.names
  ·subst e
   obtain⟨y,hy,e1⟩:=Xad.1 hn
   obtain⟨q,hq,e2⟩:=Xad.1 hn'
   obtain⟨z,hz,hzn,rfl⟩:=VX hq
   exact h.nm y hy z hz hzn (e2.trans e1.symm)
 ·intro y hy
  rcases Xag.1 hy with hy|hy
  ·exact hok y hy
  ·obtain⟨z,hz,hzn,rfl⟩:=VX hy
   exact(m.ok z hz).mono h.hsz (fun _ hb=>h.same hb) (fun _ hb=>h.imm hb) (fun _ hb=>hb) (hother z hz hzn) h.like
 ·exact hbl.imp fun hxy h1 h2 b hb hb'=>hxy b (.inr ⟨h1,hb⟩) (.inr ⟨h2,hb'⟩)
 ·rcases Xag.1 hy with hy|hy
  ·exact h.fx y hy
  ·obtain⟨z,hz,_,rfl⟩:=VX hy
   exact m.fix z hz
end swap
def Ya(del p:Nat->Bool)(ob:List (Nat×AO)):List (Nat×AO):=(ob.filter (fun y=>!del y.1)).map fun y=>(y.1,y.2.cut p)
theorem JO.swap2{X:Cx}{σ:AS}{a:Act}{w w':World}{en:List Ent}(h:JO X σ a w en){del:Nat->Bool}{ys:List Ent}{p:Nat->Bool}(hs:X7 X.P X.w0 X.Z X.O en w w' del ys p)
  (hok:∀y∈ys,EntOk X.P (Frs X.w0 X.O) w' (ys++WJ del p en) (IM X (ys++WJ del p en) w') y) :
  JO X ⟨σ.nt,cutS p σ.sl,ys.map Ent.key++Ya del p σ.ob⟩ a w' (ys++WJ del p en):=by
 refine⟨hs.done hok,?_,h.defers,h.size,fun t=>?_⟩
 ·rw[XaI]
  refine Xck _ ?_
  have e:(WJ del p en).map Ent.key=Ya del p (en.map Ent.key):=by
   simp only[Ya,WJ,XaS,XbO]
   rfl
  rw[e]
  exact(h.ob.filter _).map _
 ·simp only[Wo]
  exact hs.shows (h.slots t)

theorem QhJ{w:World}{ds el:List D}{us vs:List Value}{F:List Nat}(h:repL w el us [])(h':repL w ds vs F)(k:Nat):repL w (splice el k ds) (splice us k vs) F:=by
 have hl:=QA h'
 unfold splice
 obtain⟨G1,h1,g1⟩:=QaU h k
 obtain⟨G2,h2,g2⟩:=VT h (k+ds.length)
 have:=Xh g1;subst this
 have:=Xh g2;subst this
 rw[hl]
 have:=JE (JE h1 h') h2
 simpa using this
theorem QgD{w:World}{z:Nat}:∀{es:List (List D)} {us:List Value} {F:List Nat} {i off:Nat} {el ds:List D} {vs:List Value} {G:List Nat},repE w es us F->(∀e∈es,e.length=z)->es[i]?=some el->el.all D.flat=true->repL w ds vs G->off+ds.length<=z->
  ∃F1 F2,F=F1++F2/\repE w (es.set i (splice el off ds)) (splice us (i*z+off) vs) (F1++G++F2)
 | [],us,F,i,off,el,ds,vs,G,_,_,hi,_,_,_=>by simp at hi
 | e::es,us,F,i,off,el,ds,vs,G,h,hz,hi,hfl,h',hle=>by
  obtain⟨u1,u2,F1,F2,rfl,rfl,k1,k2⟩:=h
  have hl1:u1.length=z:=by rw[QA k1];exact hz e Xaa
  have hvl:=QA h'
  cases i with
  | zero=>
   simp only[List.getElem?_cons_zero,Xal]at hi
   subst hi
   have hF1:=Jw k1 hfl
   subst hF1
   refine⟨[],F2,rfl,?_⟩
   rw[Xbt,Xbh,XaZ,XO (by omega)]
   exact⟨_,_,G,F2,rfl,by simp,QhJ k1 h' off,k2⟩
  | succ i=>
   simp only[List.getElem?_cons_succ]at hi
   have e1:(i+1)*z+off=u1.length+(i*z+off):=by rw[hl1,XaR];omega
   obtain⟨G1,G2,rfl,g1⟩:=QgD k2 (fun x hx=>hz x (Xae _ hx)) hi hfl h' hle
   refine⟨F1++G1,G2,by simp,?_⟩
   rw[XbV,e1,ZI]
   exact⟨_,_,F1,G1++G++G2,rfl,by simp,k1,g1⟩
theorem QhK{w:World}:∀{ds:List D} {us:List Value} {F:List Nat} {k:Nat} {d:D},repL w ds us F->ds[k]?=some d->
  ∃u G F1 F2,us[k]?=some u/\d.rep w u G/\F=F1++G++F2/\∀w' d' G',w.heap.size<=w'.heap.size->(∀b∈F1++F2,Same w w' b)->D.rep w' d' u G'->repL w' (ds.set k d') us (F1++G'++F2)
 | [],_,_,k,d,_,hk=>by simp at hk
 | d0::ds,us,F,k,d,h,hk=>by
  obtain⟨u,us',F1,F2,rfl,rfl,h1,h2⟩:=h
  cases k with
  | zero=>
   simp only[List.getElem?_cons_zero,Xal]at hk
   subst hk
   refine⟨u,F1,[],F2,rfl,h1,rfl,fun w' d' G' hs hS hd=>?_⟩
   exact⟨u,us',G',F2,rfl,rfl,hd,W3 hs _ _ _ h2 (fun b hb=>hS b (by simpa using hb))⟩
  | succ k=>
   obtain⟨v,G,G1,G2,k1,k2,rfl,k3⟩:=QhK h2 (k:=k) (by simpa using hk)
   refine⟨v,G,F1++G1,G2,by simpa using k1,k2,by simp,fun w' d' G' hs hS hd=>?_⟩
   refine⟨u,us',F1,G1++G'++G2,rfl,by simp,D.rep_mono hs _ _ _ h1 (fun b hb=>hS b (by simp[hb])),k3 w' d' G' hs (fun b hb=>hS b ?_) hd⟩
   rcases List.mem_append.1 hb with hb|hb <;> simp[hb]
theorem Qeb{w:World}{z:Nat}:∀{es:List (List D)} {us:List Value} {F:List Nat} {i k:Nat} {el:List D} {d:D},repE w es us F->(∀e∈es,e.length=z)->es[i]?=some el->el[k]?=some d->
  ∃u G F1 F2,us[i*z+k]?=some u/\d.rep w u G/\F=F1++G++F2/\∀w' d' G',w.heap.size<=w'.heap.size->(∀b∈F1++F2,Same w w' b)->D.rep w' d' u G'->repE w' (es.set i (el.set k d')) us (F1++G'++F2)
 | [],_,_,i,k,el,d,_,_,hi,_=>by simp at hi
 | e::es,us,F,i,k,el,d,h,hz,hi,hk=>by
  obtain⟨u1,u2,F1,F2,rfl,rfl,h1,h2⟩:=h
  have hl1:u1.length=z:=by rw[QA h1];exact hz e Xaa
  cases i with
  | zero=>
   simp only[List.getElem?_cons_zero,Xal]at hi
   subst hi
   obtain⟨v,G,G1,G2,k1,k2,rfl,k3⟩:=QhK h1 hk
   refine⟨v,G,G1,G2++F2,?_,k2,by simp,fun w' d' G' hs hS hd=>?_⟩
   ·rw[Xbh,XaZ,List.getElem?_append_left (List.getElem?_eq_some_iff.1 k1).1]
    exact k1
   ·refine⟨u1,u2,G1++G'++G2,F2,rfl,by simp,k3 w' d' G' hs (fun b hb=>hS b ?_) hd,QH hs _ _ _ h2 (fun b hb=>hS b (by simp[hb]))⟩
    rcases List.mem_append.1 hb with hb|hb <;> simp[hb]
  | succ i=>
   simp only[List.getElem?_cons_succ]at hi
   obtain⟨v,G,G1,G2,k1,k2,rfl,k3⟩:=Qeb h2 (fun x hx=>hz x (Xae _ hx)) hi hk
   refine⟨v,G,F1++G1,G2,?_,k2,by simp,fun w' d' G' hs hS hd=>?_⟩
   ·rw[show(i+1)*z+k=u1.length+(i*z+k) by rw[hl1,XaR];omega,List.getElem?_append_right (by omega),Nat.add_sub_cancel_left]
    exact k1
   ·refine⟨u1,u2,F1,G1++G'++G2,rfl,by simp,W3 hs _ _ _ h1 (fun b hb=>hS b (by simp[hb])),k3 w' d' G' hs (fun b hb=>hS b ?_) hd⟩
    rcases List.mem_append.1 hb with hb|hb <;> simp[hb]

def Qio:List AV->Option (List AV×Nat×List AV)
 | []=>none
 | x::xs=>match x with
  | .row q=>some ([],q,xs)
  | x=>match Qio xs with
   | some (a,q,b)=>some (x::a,q,b)
   | none=>none
theorem Qgu:∀{xs pre post:List AV} {q:Nat},Qio xs=some (pre,q,post)->xs=pre++.row q::post
 | [],_,_,_,h=>by cases h
 | x::xs,pre,post,q,h=>by
  have key:∀y:AV,(match Qio xs with
   | some (a,q,b)=>some (y::a,q,b)
   | none=>none)=some (pre,q,post)->y::xs=pre++.row q::post:=fun y hy=>by
   split at hy
   ·rename_i a q' b hr
    injection hy with hy
    injection hy with e1 hy
    injection hy with e2 e3
    subst e1;subst e2;subst e3
    rw[Qgu hr];rfl
   ·cases hy
  cases x with
  | row q'=>
   simp only[Qio,Xal,Xcd]at h
   obtain⟨rfl,rfl,rfl⟩:=h
   rfl
  | _=>exact key _ h
theorem Z7{w:World}{en:List Ent}{I:Nat->Prop}{r:AV}{post:List AV}:∀{pre:List AV} {us:List Value},Qn w en I (pre++r::post) us->∃u1 u u2,us=u1++u::u2/\Qn w en I pre u1/\r.shows w en I u/\Qn w en I post u2
 | [],us,h=>by
  obtain⟨u,us',rfl,h1,h2⟩:=h
  exact⟨[],u,us',rfl,rfl,h1,h2⟩
 | x::pre,us,h=>by
  obtain⟨u,us',rfl,h1,h2⟩:=h
  obtain⟨u1,v,u2,rfl,h3,h4,h5⟩:=Z7 h2
  exact⟨u::u1,v,u2,rfl,⟨u,u1,rfl,h1,h3⟩,h4,h5⟩
theorem QkG{X:Cx}{σ:AS}{a:Act}{w:World}{en:List Ent}(h:JO X σ a w en){q:Nat}{e:TypeId}{es:List (List D)}{dq:Bool}(hq:Qm σ.ob q=some (.row e es dq))(hfl:YT es=true) :
  ∃y∈en,y.nm=q/\y.ao=.row e es dq/\∃F,(D.sl es).rep w y.val F/\F.Nodup/\(∀b∈F,blk y.val=some b)/\(es≠[]->∃z us,(X.P.info? e).map (·.size)=some z/\0<z/\(∀el∈es,el.length=z)/\w.ownsRow 0 e z y.val es.length us):=by
 obtain⟨y,hy,hyn,hya,F,h1,h2⟩:=QaG h hq
 have hok:=h.mem.ok y hy
 unfold EntOk at hok
 rw[hya]at hok
 obtain⟨z,us,k0,k1,k2,k3,k4,k5,k6,k7⟩:=hok
 have hfs:=Yt k4 (Yd hfl)
 refine⟨y,hy,hyn,hya,F,h1,?_,fun b hb=>(h2 b hb).resolve_left (by rw[hfs];simp),fun _=>⟨z,us,k0,k1,k3,k2⟩⟩
 obtain⟨A,cap,z',us',F',_,_,_,_,_,g6,g7⟩:=h1
 have hF':=Yt g6 (Yd hfl)
 subst hF'
 rcases g7 with ⟨_,rfl⟩|⟨_,b,o,_,_,rfl,_⟩ <;> simp
def isPQ(p q:Nat):Nat->Bool:=fun n=>bif Nat.beq n p then true else Nat.beq n q
theorem Q1{p q n:Nat}:isPQ p q n=true↔n=p\/n=q:=by
 unfold isPQ
 cases h:Nat.beq n p with
 | true=>simp[(Qg n p).1 h]
 | false=>
  simp only[cond_false,Qg]
  refine⟨.inr,fun h'=>h'.resolve_left fun e=>?_⟩
  rw[(Qg n p).2 e]at h;cases h
section
variable {X:Cx} {σ:AS} {o:Oper} {K:AS->Prop} {t:Nat}
theorem QnW{T e eq:TypeId}{x y:Operand}{p i off n q:Nat}{es esq:List (List D)}{dq:Bool}{el dpre dpost:List D}{xs pre post:List AV}[ti:TI X.P T](ho:o.op=.store T x y)(hd:o.dst=none)(hx:σ.ev x=.pr p i off)(hp:Qm σ.ob p=some (.row e es true))(hy:(σ.ev y).cellsV=some xs)
  (hsp:Qio xs=some (pre,q,post)) (hpre:YP pre=some dpre) (hpost:YP post=some dpost) (hq:Qm σ.ob q=some (.row eq esq dq)) (hpq:Nat.beq p q=false)
  (hn:es.length=n) (hlt:i<n) (hel:es[i]?=some el) (hfe:el.all D.flat=true) (hfp:dpre.all D.flat1=true) (hfo:dpost.all D.flat1=true) (hfq:YT esq=true) (hl:Nat.beq (dpre.length+(1+dpost.length)) ti.size=true) (hfit:Nat.ble (off+ti.size) el.length=true)
  (hK:K ⟨σ.nt,cutS (notN q) σ.sl,(p,.row e (es.set i (splice el off (dpre++.sl esq::dpost))) true)::Ya (isPQ p q) (notN q) σ.ob⟩):OpOk X o σ K:=by
 intro a w hr next Q hn'
 obtain⟨en,h1⟩:=hr
 have hpq':p≠q:=fun e=>by rw[(Qg p q).2 e]at hpq;cases hpq
 have hdl:(dpre++D.sl esq::dpost).length=ti.size:=by rw[<-(Qg _ _).1 hl];simp;omega
 have hfit':off+ti.size<=el.length:=XaJ hfit
 obtain⟨z,hz,hzn,hza⟩:=h1.ent hp
 have hok:=h1.mem.ok z hz
 unfold EntOk at hok
 rw[hza]at hok
 obtain⟨s,us,k0,k1,k2,k3,k4,k5,k6,k7⟩:=hok
 obtain⟨k7a,k7b,k7c⟩:=k7 rfl
 obtain⟨z',hz',e1,e2,g',s',e3,e4,e5,e6⟩:=QP h1 hx
 have:=h1.mem.ent_unique hz' hz (e1.trans hzn.symm)
 subst this
 rw[hza]at e4 e5
 have hsl:s'=s:=by
  have:=e4 el.length (Xad.2 ⟨el,List.mem_of_getElem? hel,rfl⟩)
  rw[<-this,k3 el (List.mem_of_getElem? hel)]
 subst hsl
 have hels:el.length=s':=k3 el (List.mem_of_getElem? hel)
 obtain⟨yq,hyq,hyqn,hyqa,Fq,hFq,hFn,hFb,hFo⟩:=QkG h1 hq hfq
 obtain⟨h6,h7⟩:=Yx h1.mem hy (AS.ev_shows h1 y)
 rw[Qgu hsp]at h6
 obtain⟨u1,u,u2,hcells,s1,s2,s3⟩:=Z7 h6
 obtain⟨F1,f1,_⟩:=Yn hpre s1
 obtain⟨F2,f2,_⟩:=Yn hpost s3
 have:=Jw f1 (Jd hfp);subst this
 have:=Jw f2 (Jd hfo);subst this
 have hu:u=yq.val:=by
  obtain⟨y',hy',g1,_,g3⟩:=s2
  have:=h1.mem.ent_unique hy' hyq (g1.trans hyqn.symm)
  rw[g3,this]
 subst hu
 have hds:repL w (dpre++D.sl esq::dpost) (u1++yq.val::u2) Fq:=by
  have:=JE f1 (show repL w (D.sl esq::dpost) (yq.val::u2) Fq from⟨_,_,Fq,[],rfl,by simp,hFq,f2⟩)
  simpa using this
 rw[<-hcells]at hds
 have hcl:(a.eval y).cells.toList.length=ti.size:=by rw[QA hds];exact hdl
 have hnq:NstL X.P w (dpre++D.sl esq::dpost) (a.eval y).cells.toList:=by
  rw[hcells]
  refine NstL.app (QA f1) (.flat (Jd hfp)) ?_
  intro j es' u' hj hu' hne
  cases j with
  | zero=>
   simp only[List.getElem?_cons_zero,Xal,D.sl.injEq]at hj hu'
   subst hj;subst hu'
   obtain⟨zq,vq,a1,a2,a3,a4⟩:=hFo hne
   exact⟨eq,zq,vq,a1,a2,a3,a4⟩
  | succ j=>
   simp only[List.getElem?_cons_succ]at hj hu'
   exact(NstL.flat (P:=X.P) (w:=w) (us:=u2) (Jd hfo)) j es' u' hj hu' hne
 obtain⟨G1,G2,hG,hrep⟩:=QgD k4 k3 hel hfe hds (off:=off) (by omega)
 have hNst:=NstL.setA k7c k2.1 k3 hel hfe hnq (off:=off) (by omega) (by omega)
 rcases k2.2 with ⟨hv,h0⟩|⟨g,cap,cur,hv,hbg,hg,hnc,hcm,hcs,htake⟩
 ·omega
 ·rw[hv]at e3
  simp only[blk,Xal]at e3
  subst e3
  have hb1:blk z'.val=some g:=by rw[hv];rfl
  have hin:i*s'+s'<=es.length*s':=by
   have:(i+1)*s'<=es.length*s':=XaH _ (by omega)
   rwa [XaR,XbS]at this
  have hcap:es.length*s'<=cap*s':=XaH _ hnc
  let nc:Array Value:=(splice cur.toList (i*s'+off) (a.eval y).cells.toList).toArray
  have hrun:(execOp a.eval o).run X.P w=.ok .skip (w.setRow g nc):=by
   have h8:=Yv (P:=X.P) (T:=T) (off:=i*s'+off) (v:=a.eval y) hg (by rw[ti.sized,<-Xay,hcl]) (by rw[<-Xay,hcl,hcs];omega) h7
   simp only[execOp,ho,e6,Sem.run_bind,h8,Result.andThen]
   rfl
  have hSame:∀b,b≠g->Same w (w.setRow g nc) b:=fun b hb=>setRow_other w g b nc hb
  have hzq:z'.nm≠yq.nm:=by rw[e1,hyqn];exact hpq'
  have hgq:∀b∈Fq,b≠g:=fun b hb e=>h1.mem.blk_ne hz' hyq hzq hb1 (by rw[<-e];exact hFb b hb)
  have hfs:∀b∈z'.fs,b≠g:=fun b hb e=>(k7b b hb).2.2 (by rw[e];exact hb1)
  have hmemG:∀b∈G1++Fq++G2,b∈z'.fs\/b∈Fq:=fun b hb=>by
   rw[hG]
   simp only[Xag]at hb ⊢
   rcases hb with (hb|hb)|hb
   ·exact .inl (.inl hb)
   ·exact .inr hb
   ·exact .inl (.inr hb)
  have hneG:∀b∈G1++Fq++G2,b≠g:=fun b hb=>(hmemG b hb).elim (hfs b) (hgq b)
  have hdis:∀b∈Fq,b∉z'.fs:=fun b hb hb'=>h1.mem.hd_ne hz' hyq hzq (.inr ⟨by rw[hza];rfl,hb'⟩) (.inl (hFb b hb))
  let es':=es.set i (splice el off (dpre++D.sl esq::dpost))
  let x':Ent:=⟨p,.row e es' true,z'.val,G1++Fq++G2⟩
  have hlens:(AO.row e es' true).lens=(AO.row e es true).lens:=Qj8 hel (QU (by omega))
  have hs:X7 X.P X.w0 X.Z X.O en w (w.setRow g nc) (isPQ p q) [x'] (notN q):=by
   refine⟨h1.mem,fun n hn=>?_,fun x hx hd hpx=>⟨x',Xaa,?_⟩,rfl,rfl,rfl,by simp,fun b hb hno=>hSame b (fun e=>hno z' hz' (Q1.2 (.inl e1)) (.inl (e▸hb1))),fun y hy b hb=>?_,fun y hy x hx hd e=>?_,by simp,by simp,fun y hy=>?_⟩
   ·refine Q1.2 (.inr ?_)
    unfold notN at hn
    exact(Qg _ _).1 (by simpa using hn)
   ·have hxp:x.nm=p:=(Q1.1 hd).resolve_right fun e=>by rw[e,VO]at hpx;cases hpx
    have:=h1.mem.ent_unique hx hz' (hxp.trans e1.symm)
    subst this
    exact⟨e1.symm,rfl,by rw[hza];rfl,by rw[hza];exact hlens⟩
   ·obtain rfl:y=x':=by simpa using hy
    rcases hb with hb|⟨_,hb⟩
    ·exact .inr ⟨z',hz',Q1.2 (.inl e1),.inl hb⟩
    ·rcases hmemG b hb with hb|hb
     ·exact .inr ⟨z',hz',Q1.2 (.inl e1),.inr ⟨by rw[hza];rfl,hb⟩⟩
     ·exact .inr ⟨yq,hyq,Q1.2 (.inr hyqn),.inl (hFb b hb)⟩
   ·obtain rfl:y=x':=by simpa using hy
    rw[Q1.2 (.inl e)]at hd;cases hd
   ·obtain rfl:y=x':=by simpa using hy
    show X.Z.fx p z'.val
    rw[<-e1]
    exact h1.mem.fix z' hz'
  have h9:=h1.swap2 hs (fun y hy=>by
   obtain rfl:y=x':=by simpa using hy
   unfold EntOk
   have hrep':=QH (w':=w.setRow g nc) (by simp) _ _ _ hrep (fun b hb=>hSame b (hneG b hb))
   refine⟨s',splice us (i*s'+off) (a.eval _).cells.toList,k0,k1,?_,fun q hq=>?_,hrep',fun h=>Bool.noConfusion h,k6,fun _=>⟨?_,fun b hb=>?_,hNst.same (Q4 hrep) (fun b hb=>hSame b (hneG b hb))⟩⟩
   ·have hul:us.length=es.length*s':=k2.1
    have hul2:i*s'+off+(a.eval y).cells.toList.length<=us.length:=by omega
    have hcl2:cur.toList.length=cap*s':=by rw[Xay];exact hcs
    refine⟨by rw[QU hul2,hul,Xak],.inr ⟨g,cap,_,by rw[hv,Xak],Xab _,setRow_heap w g cur nc e _ hg,by rw[Xak];exact hnc,hcm,?_,?_⟩⟩
    ·simp only[nc,XbB]
     rw[QU (by omega),Xay]
     exact hcs
    ·rw[Xak,<-htake]
     exact V6 (by rw[<-hul];exact hul2)
   ·rcases Xbl hq with hq|rfl
    ·exact k3 q hq
    ·rw[QU (by omega)];exact hels
   ·rw[hG,Xbe]at k7a
    show(G1++Fq++G2).Nodup
    rw[Xaq,Xbe]
    refine⟨k7a.1,?_,fun b hb c hc e=>?_⟩
    ·rw[Xbe]
     exact⟨hFn,k7a.2.1,fun b hb c hc e=>hdis b hb (by rw[hG,e];exact Xav _ hc)⟩
    ·rcases Xag.1 hc with hc|hc
     ·exact hdis c hc (by rw[hG,<-e];exact Xat _ hb)
     ·exact k7a.2.2 b hb c hc e
   ·rcases hmemG b hb with hb'|hb'
    ·exact⟨(k7b b hb').1,by simpa using (k7b b hb').2.1,(k7b b hb').2.2⟩
    ·have hl:=(h1.mem.ok yq hyq).lt (hFb b hb')
     exact⟨hl.2,by simpa using hl.1,fun e=>hgq b hb' (by
      have:blk z'.val=some b:=e
      rw[hb1]at this
      injection this with this
      exact this.symm)⟩)
  unfold Oper.wp
  rw[hrun,Oper.upon_skip,hd]
  exact hn' _ _ _ hK ⟨_,h9⟩
end

theorem EntOk.data{P:Program}{Fr:Nat->Prop}{w:World}{en:List Ent}{I:Nat->Prop}{y:Ent}{e:TypeId}{es:List (List D)}{dp:Bool}(hok:EntOk P Fr w en I y)(hya:y.ao=.row e es dp):∃F,(D.sl es).rep w y.val F/\∀b∈F,(b∈y.fs\/blk y.val=some b):=by
 have hlt:=fun b hb=>(hok.lt (b:=b) hb).1
 unfold EntOk at hok
 rw[hya]at hok
 obtain⟨z,us,k0,k1,k2,k3,k4,k5,k6,k7⟩:=hok
 obtain⟨A,c,g1,g2,g3,g4,g5⟩:=Jx k2
 by_cases he:es=[]
 ·subst he
  exact⟨[],⟨A,c,z,us,y.fs,g1,g2,g3,g4,k3,k4,.inl ⟨rfl,rfl⟩⟩,by simp⟩
 ·have hpos:0<es.length:=Xbp.2 he
  obtain⟨g,g6⟩:=g5 hpos
  subst g6
  refine⟨g::y.fs,⟨_,c,z,us,y.fs,g1,g2,g3,g4,k3,k4,.inr ⟨he,g,0,rfl,hlt g (by rw[g1];rfl),rfl,fun j v hj=>?_⟩⟩,fun b hb=>?_⟩
  ·rw[g1]at k2
   have hl:=(List.getElem?_eq_some_iff.1 hj).1
   rw[k2.1]at hl
   rw[XaZ,k2.cellAt j hl]
   exact hj
  ·rcases Xaj.1 hb with rfl|hb
   ·exact .inr (by rw[g1];rfl)
   ·exact .inl hb
theorem Qdv{w:World}{es:List (List D)}{u:Value}{F:List Nat}(h:(D.sl es).rep w u F)(hne:es≠[])(hfl:YT es=true):∃b,blk u=some b/\F=[b]:=by
 obtain⟨A,cap,z,us,F',rfl,_,_,_,_,g6,g7⟩:=h
 rcases g7 with ⟨g7,_⟩|⟨_,b,o,rfl,_,rfl,_⟩
 ·exact absurd g7 hne
 ·rw[Yt g6 (Yd hfl)]
  exact⟨b,rfl,rfl⟩
theorem Qhb{α:Type}{l:List α}{i:Nat}{x:α}(h:l[i]?=some x):l.set i x=l:=by
 refine List.ext_getElem? fun k=>?_
 rw[List.getElem?_set]
 split
 ·rename_i hk
  subst hk
  rw[if_pos (List.getElem?_eq_some_iff.1 h).1,h]
 ·rfl
theorem Wb{α:Type}{z:Nat}:∀{es:List (List α)} {i off:Nat} {el:List α} {d:α},(∀e∈es,e.length=z)->es[i]?=some el->off<z->(es.set i (el.set off d)).flatten=es.flatten.set (i*z+off) d
 | [],i,off,el,d,_,hi,_=>by simp at hi
 | e::es,i,off,el,d,hz,hi,ho=>by
  have he:=hz e Xaa
  cases i with
  | zero=>
   simp only[List.getElem?_cons_zero,Xal]at hi
   subst hi
   rw[Xbt,XbK,XbK,Xbh,XaZ,List.set_append_left _ _ (by omega)]
  | succ i=>
   simp only[List.getElem?_cons_succ]at hi
   rw[XbV,XbK,XbK,Wb (fun x hx=>hz x (Xae _ hx)) hi ho,Xbu _ _ (by rw[he,XaR];omega)]
   congr 2
   rw[he,XaR];omega
theorem JO.fresh{X:Cx}{σ:AS}{a:Act}{w:World}{en:List Ent}(h:JO X σ a w en){p:Nat}{ao:AO}(hp:Qm σ.ob p=some ao):Rel X ⟨σ.nt,σ.sl,(p,ao)::Ya (isPQ p p) (fun _=>true) σ.ob⟩ a w:=by
 obtain⟨y,hy,hyn,hya⟩:=h.ent hp
 refine⟨en,h.mem,?_,h.defers,h.size,h.slots⟩
 have e1:Ya (isPQ p p) (fun _=>true) σ.ob=σ.ob.filter fun y=>!isPQ p p y.1:=by
  unfold Ya
  have:(fun(y:Nat×AO)=>(y.1,y.2.cut fun _=>true))=id:=by funext y;simp[AO.cut_true]
  rw[this,XcM]
 rw[e1]
 refine h.ob.trans ?_
 have hnd:(σ.ob.map Prod.fst).Nodup:=by
  have:=h.mem.names
  have e:en.map Ent.nm=(en.map Ent.key).map Prod.fst:=by simp only[XaS];rfl
  rw[e]at this
  exact(h.ob.map _).nodup_iff.1 this
 have hmem:=Jl hp
 refine(Xb1 (YY hnd) ?_).2 fun q=>?_
 ·rw[XaY]
  refine⟨fun hm=>?_,(YY hnd).filter _⟩
  rw[XaF]at hm
  have:isPQ p p p=true:=Q1.2 (.inl rfl)
  simp[this]at hm
 ·rw[Xaj,XaF]
  constructor
  ·intro hq
   by_cases e:q.1=p
   ·exact .inl (Xw hnd hq hmem e)
   ·refine .inr ⟨hq,?_⟩
    cases hb:isPQ p p q.1 with
    | false=>rfl
    | true=>exact absurd ((Q1.1 hb).elim id id) e
  ·rintro (rfl|⟨hq,_⟩)
   ·exact hmem
   ·exact hq
section
variable {X:Cx} {σ:AS} {Q:Exit->AS->Prop}
theorem QhW{ops:Array Oper}{l:List Oper}{o1 om o2:Oper}{T:TypeId}{x y:Operand}{t1 tm t2 p i off z1:Nat}{e:TypeId}{f:FuncId}{es es1 es2:List (List D)}{el:List D}{ats:Array TypeId}{kv kr:Int}[ti:TI X.P T]
  (hg1:o1.guard=none) (ho1:o1.op=.load T x) (hd1:o1.dst=some t1) (ha:JQ ti.desc=false) (hx:σ.ev x=.pr p i off) (hp:Qm σ.ob p=some (.row e es true)) (hel:es[i]?=some el) (hnst:el[off]?=some (.sl es1)) (ht1:Nat.blt t1 σ.nt=true)
  (hgm:om.guard=none) (hom:om.op=.move y) (hdm:om.dst=some tm) (hy:σ.ev y=.d (.n .i64 kv)) (hyt:(∀k,y=.tmp k->Nat.beq k t1=false)) (htm:Nat.blt tm σ.nt=true) (hne1:Nat.beq t1 tm=false)
  (hg2:o2.guard=none) (ho2:o2.op=.call { callee:=.value (.func f),args:=#[.tmp t1,.tmp tm],argTypes:=ats }) (hd2:o2.dst=some t2) (ht2:Nat.blt t2 σ.nt=true)
  (hz1:∀q∈es1,q.length=z1) (hf1:YT es1=true) (hf2:YT es2=true) (hlen:es2.length=es1.length)
  (hc:es1≠[]->∀e',(X.P.info? e').map (·.size)=some z1->MCalls X.P f [.row 1000000,.d (.n .i64 kv)] [(1000000,.row e' es1 true)] (fun _:Unit=>True) (fun _=>[.d (.n .i64 kr)]) (fun _=>[(1000000,.row e' es2 true)]) (fun _=>[]))
  (hc0:es1=[]->ACalls X.P f [.d (.sl []),.d (.n .i64 kv)] [.d (.n .i64 kr)] [])
  (hK:QJ X ops l Q ⟨σ.nt,(t2,.d (.n .i64 kr))::(tm,.d (.n .i64 kv))::(t1,.any)::σ.sl,(p,.row e (es.set i (el.set off (.sl es2))) true)::Ya (isPQ p p) (fun _=>true) σ.ob⟩):QJ X ops (o1::om::o2::l) Q σ:=by
 intro a w hr
 obtain⟨en,h1⟩:=hr
 obtain⟨zp,hz,hzn,hza⟩:=h1.ent hp
 have hok:=h1.mem.ok zp hz
 unfold EntOk at hok
 rw[hza]at hok
 obtain⟨s,us,k0,k1,k2,k3,k4,k5,k6,k7⟩:=hok
 obtain⟨k7a,k7b,k7c⟩:=k7 rfl
 obtain⟨z',hz',e1,e2,g',s',e3,e4,e5,e6⟩:=QP h1 hx
 have:=h1.mem.ent_unique hz' hz (e1.trans hzn.symm)
 subst this
 rw[hza]at e4 e5
 have hels:el.length=s:=k3 el (List.mem_of_getElem? hel)
 have hsl:s'=s:=by
  have:=e4 el.length (Xad.2 ⟨el,List.mem_of_getElem? hel,rfl⟩)
  rw[<-this,hels]
 subst hsl
 have hoff:off<s':=by rw[<-hels];exact(List.getElem?_eq_some_iff.1 hnst).1
 have hilt:i<es.length:=(List.getElem?_eq_some_iff.1 hel).1
 obtain⟨u,G,F1,F2,hus,hrep,hF,hback⟩:=Qeb k4 k3 hel hnst
 obtain⟨A,c,q1,q2,q3,q4,q5⟩:=Jx k2
 obtain⟨g0,q6⟩:=q5 (by omega)
 have hcell:w.cell? ⟨g',i*s'+off,none⟩=some u:=by
  rw[q1,q6]at e3 k2
  simp only[blk,Xal]at e3
  subst e3
  rw[k2.cellAt _ (by have:=(List.getElem?_eq_some_iff.1 hus).1;rwa [k2.1]at this)]
  exact hus
 have hrun1:(execOp a.eval o1).run X.P w=.ok (.value u) w:=by
  have hag:(isAgg T).run X.P w=.ok false w:=by
   unfold isAgg
   rw[Sem.run_bind,run_underlying ti.und w]
   cases hde:ti.desc <;> simp_all[JQ,Sem.run_pure]
  simp only[execOp,ho1,e6,Instr.loadAt,Instr.sureAddr,loadVar,Sem.run_bind,Sem.run_pure,Result.andThen_ok,hag,XaV,if_false,run_load]
  rw[hcell]
  rfl
 have hu1:u.oneCell'=true:=D.rep_one hrep
 refine wpList_plain hg1 fun K hKK=>?_
 unfold Oper.wp
 rw[hrun1,Oper.upon_value,hd1]
 refine hKK _ _ ?_
 have hne1':t1≠tm:=fun e=>by rw[(Qg t1 tm).2 e]at hne1;cases hne1
 have hlt1:t1<a.tmps.size:=by rw[h1.size];exact Jg ht1
 have hltm:tm<a.tmps.size:=by rw[h1.size];exact Jg htm
 have hyv:(a.put (some t1) u).eval y=.int .i64 kv:=by
  obtain⟨F,⟨h3,_⟩,_⟩:=QP h1 hy
  cases y with
  | tmp k=>
   have hk:k≠t1:=fun e=>by have:=hyt k rfl;rw[(Qg k t1).2 e]at this;cases this
   rw[<-h3]
   simp only[Act.put,Act.eval,Array.getD_eq_getD_getElem?,Array.getElem?_setIfInBounds_ne (Ne.symm hk)]
  | _=>exact h3
 refine wpList_plain hgm fun K1 hKK1=>?_
 unfold Oper.wp
 have hrunm:(execOp (a.put (some t1) u).eval om).run X.P w=.ok (.value (.int .i64 kv)) w:=by
  simp only[execOp,hom,hyv];rfl
 rw[hrunm,Oper.upon_value,hdm]
 refine hKK1 _ _ ?_
 have heval:((a.put (some t1) u).put (some tm) (.int .i64 kv)).eval (.tmp t1)=u:=by
  simp[Act.put,Act.eval,hlt1,hne1'.symm]
 have heval2:((a.put (some t1) u).put (some tm) (.int .i64 kv)).eval (.tmp tm)=.int .i64 kv:=by
  simp[Act.put,Act.eval,hltm]
 by_cases hne:es1=[]
 ·subst hne
  have he2:es2=[]:=XaA (by simpa using hlen)
  subst he2
  have hG:G=[]:=by
   obtain⟨_,_,_,_,_,_,_,_,_,_,_,g7⟩:=hrep
   rcases g7 with ⟨_,g7⟩|⟨g7,_⟩
   ·exact g7
   ·exact absurd rfl g7
  have h2:=(h1.put (v:=.d (.sl [])) ⟨G,hrep,by rw[hG];simp⟩ ht1).put (t:=tm) (v:=.d (.n .i64 kv)) (u:=.int .i64 kv) ⟨[],⟨rfl,rfl⟩,by simp⟩ htm
  have hstep:=QoL (K:=QJ X ops l Q) (σ:=(σ.put t1 (.d (.sl []))).put tm (.d (.n .i64 kv))) (hc0 rfl) ho2 hd2 (by
   have e1:((σ.put t1 (.d (.sl []))).put tm (.d (.n .i64 kv))).ev (.tmp t1)=.d (.sl []):=by
    simp only[AS.ev,AS.put,QM,if_neg hne1'.symm,if_pos trivial]
   have e2:((σ.put t1 (.d (.sl []))).put tm (.d (.n .i64 kv))).ev (.tmp tm)=.d (.n .i64 kv):=by
    simp only[AS.ev,AS.put,QM,if_pos trivial]
   simp only[AS.snaps,e1,e2,QnE,snap1]) rfl ht2 (by
   intro a' w' hr'
   obtain⟨en',hr'⟩:=hr'
   have hset:es.set i (el.set off (D.sl []))=es:=by
    rw[Qhb hnst,Qhb hel]
   rw[hset]at hK
   refine hK a' w' ?_
   have h3:JO X ⟨σ.nt,(t2,.d (.n .i64 kr))::(tm,.d (.n .i64 kv))::(t1,.any)::σ.sl,σ.ob⟩ a' w' en':=by
    refine⟨hr'.mem,hr'.ob,hr'.defers,hr'.size,fun t=>?_⟩
    have:=hr'.slots t
    simp only[one,AV.shift,AS.put,QM]at this ⊢
    split
    ·rename_i e;rw[if_pos e]at this;exact this
    ·rename_i e
     rw[if_neg e]at this
     split
     ·rename_i e';rw[if_pos e']at this;exact this
     ·rename_i e'
      rw[if_neg e']at this
      split
      ·trivial
      ·rename_i e'';rw[if_neg e'']at this;exact this
   exact h3.fresh hp)
  exact Qfz hg2 hstep _ _ ⟨en,h2⟩
 ·have h2:=(h1.put (v:=.any) (u:=u) trivial ht1).put (t:=tm) (v:=.d (.n .i64 kv)) (u:=.int .i64 kv) ⟨[],⟨rfl,rfl⟩,by simp⟩ htm
  obtain⟨b0,hb0,hG⟩:=Qdv hrep hne hf1
  subst hG
  have hfi:es.flatten[i*s'+off]?=some (D.sl es1):=by
   rw[Qdj k1 k3]
   have e1:(i*s'+off) / s'=i:=by
    rw[Xcj,Nat.mul_add_div k1,Xcn hoff,XbI]
   have e2:(i*s'+off) % s'=off:=by
    rw[Xcj,Nat.mul_add_mod,Xco hoff]
   rw[e1,e2,hel]
   exact hnst
  obtain⟨en1,zn,vs,n1,n2,n3,n4⟩:=k7c _ _ _ hfi hus hne
  have hzz:zn=z1:=by
   cases es1 with
   | nil=>exact absurd rfl hne
   | cons d0 l=>rw[<-n3 d0 Xaa,hz1 d0 Xaa]
  subst hzz
  let q:Ent:=⟨1000000,.row en1 es1 true,u,[]⟩
  have hvs:repE w es1 vs []:=by
   obtain⟨A1,c1,z2,us1,F',r1,r2,r3,r4,r5,r6,r7⟩:=hrep
   rcases r7 with ⟨r7,_⟩|⟨_,b,o,rA,r8,r9,r10⟩
   ·exact absurd r7 hne
   ·have hF':F'=[]:=by injection r9 with _ r9;exact r9.symm
    subst hF'
    have hz2:z2=zn:=by
     cases es1 with
     | nil=>exact absurd rfl hne
     | cons d0 l=>rw[<-n3 d0 Xaa,r5 d0 Xaa]
    subst hz2
    obtain⟨A3,c3,m1,m2,m3,m4,m5⟩:=Jx n4
    obtain⟨g3,m6⟩:=m5 (Xbp.2 hne)
    rw[r1,rA]at m1
    injection m1 with m1 _ m7
    rw[m6]at m1
    injection m1 with m1
    injection m1 with m1 m8
    have:us1=vs:=by
     refine List.ext_getElem? fun j=>?_
     by_cases hj:j<es1.length*z2
     ·have h3:j<us1.length:=by rw[Q6 r6 r5];exact hj
      have h4:=r10 j _ (List.getElem?_eq_getElem h3)
      rw[r1,rA,m8]at n4
      have n5:=n4
      rw[m1]at n5
      rw[List.getElem?_eq_getElem h3,<-h4,m1,m8,XaZ]
      exact(World.ownsRow.cellAt n5 j hj)
     ·rw[List.getElem?_eq_none (by rw[Q6 r6 r5];omega),List.getElem?_eq_none (by rw[n4.1];omega)]
    rw[<-this];exact r6
  have hOHq:∀b,OH [q] b->b=b0:=fun b ⟨x,hx,hb⟩=>by
   obtain rfl:x=q:=by simpa using hx
   rcases hb with hb|⟨_,hb⟩
   ·have:blk u=some b:=hb
    rw[hb0]at this
    injection this with this
    exact this.symm
   ·cases hb
  have hm:Mem X.P w (ZH (IM X en w) [q]) (OH [q]) [q] w:=by
   refine⟨rfl,rfl,rfl,Xam _,fun _ _ _=>rfl,by simp,by simp,fun y hy=>?_,by simp,fun y hy _ x hx e=>?_⟩
   ·obtain rfl:y=q:=by simpa using hy
    unfold EntOk
    exact⟨zn,vs,n1,n2,n4,n3,hvs,fun h=>Bool.noConfusion h,fun b hb=>.inl ⟨q,List.mem_cons_self,.inl hb⟩,fun _=>⟨by simp[q],by simp[q],NstL.nilE hvs⟩⟩
   ·obtain rfl:y=q:=by simpa using hy
    obtain rfl:x=q:=by simpa using hx
    rfl
  obtain⟨c1,c2⟩:=(hc hne en1 n1).2 w (IM X en w) [q] [u,.int .i64 kv] hm rfl ⟨u,[.int .i64 kv],rfl,⟨q,Xaa,rfl,rfl,rfl⟩,⟨_,[],rfl,⟨[],⟨rfl,rfl⟩,by simp⟩,rfl⟩⟩
  refine wpList_plain hg2 fun K2 hKK2=>?_
  unfold Oper.wp
  rw[Y5 ho2]
  simp only[Xaw,Xbb,heval,heval2]
  rw[c1,Oper.upon_enter]
  refine c2.mono fun e w' ⟨_,v,er,_,he,m,hk,hr⟩=>?_
  subst he
  rw[hd2]
  refine hKK2 _ _ ?_
  obtain⟨yq,rfl⟩:∃yq,er=[yq]:=by
   have:=hk.length_eq
   cases er with
   | nil=>simp at this
   | cons y l=>
    cases l with
    | nil=>exact⟨y,rfl⟩
    | cons y2 l=>simp at this
  have hkey:yq.key=(1000000,.row en1 es2 true):=by
   have:=hk.mem_iff.1 (Xaa:yq.key∈[yq].map Ent.key)
   simpa using this
  have hyqn:yq.nm=1000000:=congrArg Prod.fst hkey
  have hyqa:yq.ao=.row en1 es2 true:=congrArg Prod.snd hkey
  have hyqv:yq.val=u:=m.fix yq Xaa (by rw[hyqn];rfl) q Xaa hyqn.symm
  have hv:v=.int .i64 kr:=by
   obtain⟨F,⟨h3,_⟩,_⟩:=hr
   exact h3
  subst hv
  have hoky:=m.ok yq Xaa
  obtain⟨G',hG1,hG2⟩:=hoky.data hyqa
  have hne2:es2≠[]:=fun e=>hne (XaA (by rw[<-hlen,e];rfl))
  obtain⟨b1,hb1,hGe⟩:=Qdv hG1 hne2 hf2
  subst hGe
  have hbb:b1=b0:=by rw[hyqv,hb0]at hb1;injection hb1 with hb1;exact hb1.symm
  subst hbb
  rw[hyqv]at hG1
  unfold EntOk at hoky
  rw[hyqa]at hoky
  obtain⟨zy,uy,y0,y1,y2,y3,y4,y5,y6,y7⟩:=hoky
  rw[hyqv]at y2
  have hnd:(F1++[b1]++F2).Nodup:=by rw[<-hF];exact k7a
  have hnb:b1∉F1++F2:=fun hb=>by
   rw[Xaq,Xbe]at hnd
   rcases Xag.1 hb with hb|hb
   ·exact hnd.2.2 b1 hb b1 (by simp) rfl
   ·have:=hnd.2.1
    simp only[XbE,XaY]at this
    exact this.1 hb
  have hfsub:∀b∈F1++F2,b∈z'.fs:=fun b hb=>by
   rw[hF]
   rcases List.mem_append.1 hb with hb|hb <;> simp[hb]
  have hbfs:b1∈z'.fs:=by rw[hF];simp
  have hSold:∀b,b<w.heap.size->b≠b1->Same w w' b:=fun b hb hne=>m.old b hb fun hO=>hne (hOHq b hO)
  have hSF:∀b∈F1++F2,Same w w' b:=fun b hb=>hSold b (k7b b (hfsub b hb)).2.1 (fun e=>hnb (e▸hb))
  have hun:=hback w .un [] (Xam _) (fun _ _=>rfl) ⟨hu1,rfl⟩
  let es':=es.set i (el.set off (D.sl es2))
  let x':Ent:=⟨p,.row e es' true,z'.val,F1++[b1]++F2⟩
  have hlens:(AO.row e es' true).lens=(AO.row e es true).lens:=by
   simp only[AO.lens,es',XbJ,Xak]
   refine List.ext_getElem? fun k=>?_
   rw[List.getElem?_set]
   split
   ·rename_i hk
    subst hk
    rw[List.getElem?_map,hel]
    simp[hilt]
   ·rfl
  have hs:X7 X.P X.w0 X.Z X.O en w w' (isPQ p p) [x'] (fun _=>true):=by
   refine⟨h1.mem,fun n hn=>Bool.noConfusion hn,fun x hx hd hpx=>⟨x',Xaa,?_⟩,m.os,m.tape,m.output,m.size,fun b hb hno=>hSold b hb (fun e=>hno z' hz' (Q1.2 (.inl e1)) (.inr ⟨by rw[hza];rfl,e▸hbfs⟩)),fun y hy b hb=>?_,fun y hy x hx hd e=>?_,by simp,by simp,fun y hy=>?_⟩
   ·have:=h1.mem.ent_unique hx hz' (((Q1.1 hd).elim id id).trans e1.symm)
    subst this
    exact⟨e1.symm,rfl,by rw[hza];rfl,by rw[hza];exact hlens⟩
   ·obtain rfl:y=x':=by simpa using hy
    rcases hb with hb|⟨_,hb⟩
    ·exact .inr ⟨z',hz',Q1.2 (.inl e1),.inl hb⟩
    ·exact .inr ⟨z',hz',Q1.2 (.inl e1),.inr ⟨by rw[hza];rfl,by rw[hF];exact hb⟩⟩
   ·obtain rfl:y=x':=by simpa using hy
    rw[Q1.2 (.inl e)]at hd;cases hd
   ·obtain rfl:y=x':=by simpa using hy
    show X.Z.fx p z'.val
    rw[<-e1]
    exact h1.mem.fix z' hz'
  have hrow:w'.ownsRow 0 e s' z'.val es.length us:=Qgz k2 (fun b hb=>hSold b ((h1.mem.ok z' hz').lt hb).1 (fun e=>(k7b b1 hbfs).2.2 (e▸hb)))
  have hrep':=hback w' (.sl es2) [b1] m.size hSF hG1
  have h9:=h2.swap2 hs (fun y hy=>by
   obtain rfl:y=x':=by simpa using hy
   unfold EntOk
   refine⟨s',us,k0,k1,by rw[Xak];exact hrow,fun q hq=>?_,hrep',fun h=>Bool.noConfusion h,k6,fun _=>⟨hnd,fun b hb=>?_,fun j q u' hj hu' hqne=>?_⟩⟩
   ·rcases Xbl hq with hq|rfl
    ·exact k3 q hq
    ·rw[Xak];exact hels
   ·have:=k7b b (by rw[hF];exact hb)
    exact⟨this.1,XaL this.2.1 m.size,this.2.2⟩
   ·rw[Wb k3 hel hoff,List.getElem?_set]at hj
    split at hj
    ·rename_i hjj
     subst hjj
     split at hj
     ·simp only[Xal,D.sl.injEq]at hj
      subst hj
      rw[hus]at hu'
      injection hu' with hu'
      subst hu'
      exact⟨en1,zy,uy,y0,y1,y3,y2⟩
     ·cases hj
    ·rename_i hjj
     have hN:NstL X.P w (es.set i (el.set off D.un)).flatten us:=fun j q u hj hu hq=>by
      rw[Wb k3 hel hoff,List.getElem?_set]at hj
      split at hj
      ·split at hj
       ·simp at hj
       ·cases hj
      ·exact k7c j q u hj hu hq
     have hN':=hN.same (w':=w') (Q4 hun) (fun b hb=>hSF b (by simpa using hb))
     refine hN' j q u' ?_ hu' hqne
     rw[Wb k3 hel hoff,List.getElem?_set,if_neg hjj]
     exact hj)
  have h10:=h9.put (t:=t2) (v:=.d (.n .i64 kr)) (u:=.int .i64 kr) ⟨[],⟨rfl,rfl⟩,by simp⟩ ht2
  simp only[AS.put,Qaw]at h10
  exact hK _ _ ⟨_,h10⟩
end

theorem Qkg{w:World}:∀{ds:List D} {us:List Value} {F:List Nat} {k:Nat} {d:D},repL w ds us F->ds[k]?=some d->d.flat1=true->∀{d':D} {u':Value},D.rep w d' u' []->repL w (ds.set k d') (us.set k u') F
 | [],_,_,k,d,_,hk,_,_,_,_=>by simp at hk
 | d0::ds,us,F,k,d,h,hk,hf,d',u',hd=>by
  obtain⟨u,us',F1,F2,rfl,rfl,h1,h2⟩:=h
  cases k with
  | zero=>
   simp only[List.getElem?_cons_zero,Xal]at hk
   subst hk
   have:F1=[]:=D.flat_fs h1 (by cases d0 <;> first|rfl|cases hf)
   subst this
   exact⟨u',us',[],F2,rfl,rfl,hd,h2⟩
  | succ k=>exact⟨u,us'.set k u',F1,F2,rfl,rfl,h1,Qkg h2 (k:=k) (by simpa using hk) hf hd⟩
theorem QkO{w:World}{z:Nat}:∀{es:List (List D)} {us:List Value} {F:List Nat} {i k:Nat} {el:List D} {d:D},repE w es us F->(∀e∈es,e.length=z)->es[i]?=some el->el[k]?=some d->d.flat1=true->∀{d':D} {u':Value},D.rep w d' u' []->
  repE w (es.set i (el.set k d')) (us.set (i*z+k) u') F
 | [],_,_,i,k,el,d,_,_,hi,_,_,_,_,_=>by simp at hi
 | e::es,us,F,i,k,el,d,h,hz,hi,hk,hf,d',u',hd=>by
  obtain⟨u1,u2,F1,F2,rfl,rfl,h1,h2⟩:=h
  have hl1:u1.length=z:=by rw[QA h1];exact hz e Xaa
  cases i with
  | zero=>
   simp only[List.getElem?_cons_zero,Xal]at hi
   subst hi
   have hkl:k<u1.length:=by rw[QA h1];exact(List.getElem?_eq_some_iff.1 hk).1
   rw[Xbt,Xbh,XaZ,List.set_append_left _ _ hkl]
   exact⟨u1.set k u',u2,F1,F2,rfl,rfl,Qkg h1 hk hf hd,h2⟩
  | succ i=>
   simp only[List.getElem?_cons_succ]at hi
   have e1:(i+1)*z+k=u1.length+(i*z+k):=by rw[hl1,XaR];omega
   rw[XbV,e1,Xbu _ _ (by omega),Nat.add_sub_cancel_left]
   exact⟨u1,_,F1,F2,rfl,rfl,h1,QkO h2 (fun x hx=>hz x (Xae _ hx)) hi hk hf hd⟩
theorem QlX{α:Type}{l:List α}{k:Nat}{x:α}(h:k<l.length):splice l k [x]=l.set k x:=by
 unfold splice
 refine List.ext_getElem? fun j=>?_
 simp only[XaG,List.getElem?_append,List.getElem?_take,List.getElem?_drop,List.getElem?_set,Xac,Xai]
 repeat' split
 all_goals first|rfl|omega|skip
 all_goals first|(subst_vars;rw[List.getElem?_eq_getElem (by simpa using h)];done)|(rename_i h1 h2 h3;rw[show j-min k l.length=0 by omega];rfl)|(congr 1;omega)
section
variable {X:Cx} {σ:AS} {o:Oper} {K:AS->Prop} {t:Nat}
theorem WS{T e:TypeId}{x y:Operand}{p i off n:Nat}{es:List (List D)}{dp:Bool}{el:List D}{d0 d:D}[ti:TI X.P T](ho:o.op=.store T x y)(hd:o.dst=none)(hx:σ.ev x=.pr p i off)(hp:Qm σ.ob p=some (.row e es dp))(hy:σ.ev y=.d d)
  (hn:es.length=n) (hlt:i<n) (hel:es[i]?=some el) (h0:el[off]?=some d0) (hf0:d0.flat1=true) (hfd:d.flat1=true) (hl:Nat.beq ti.size 1=true)
  (hK:K ⟨σ.nt,σ.sl,(p,.row e (es.set i (el.set off d)) dp)::YB p σ.ob⟩):OpOk X o σ K:=by
 have hsz1:ti.size=1:=(Qg _ _).1 hl
 refine QmL (ao':=.row e (es.set i (el.set off d)) dp) hp hd rfl ?_ rfl (fun a w en z h1 hz hzn hza hok=>?_) hK
 ·simp only[AO.lens,XbJ,Xak]
  refine List.ext_getElem? fun k=>?_
  rw[List.getElem?_set]
  split
  ·rename_i hk
   subst hk
   split
   ·rw[List.getElem?_map,hel];rfl
   ·rename_i hk
    rw[List.getElem?_eq_none (by simpa using hk)]
  ·rfl
 ·unfold EntOk at hok
  rw[hza]at hok
  obtain⟨s,us,k0,k1,k2,k3,k4,k5,k6,k7⟩:=hok
  obtain⟨z',hz',e1,e2,g',s',e3,e4,e5,e6⟩:=QP h1 hx
  have:=h1.mem.ent_unique hz' hz (e1.trans hzn.symm)
  subst this
  rw[hza]at e4 e5
  have hels:el.length=s:=k3 el (List.mem_of_getElem? hel)
  have hsl:s'=s:=by
   have:=e4 el.length (Xad.2 ⟨el,List.mem_of_getElem? hel,rfl⟩)
   rw[<-this,hels]
  subst hsl
  have hoff:off<s':=by rw[<-hels];exact(List.getElem?_eq_some_iff.1 h0).1
  obtain⟨F,g1,g2⟩:=QP h1 hy
  have hF:F=[]:=D.flat_fs g1 (by cases d <;> first|rfl|cases hfd)
  subst hF
  have hone:=D.rep_one g1
  have hcells:(a.eval y).cells=#[a.eval y]:=Qg1 hone
  rcases k2.2 with ⟨hv,h0'⟩|⟨g,cap,cur,hv,hbg,hg,hnc,hcm,hcs,htake⟩
  ·omega
  ·rw[hv]at e3
   simp only[blk,Xal]at e3
   subst e3
   have hin:i*s'+s'<=es.length*s':=by
    have:(i+1)*s'<=es.length*s':=XaH _ (by omega)
    rwa [XaR,XbS]at this
   have hcap:es.length*s'<=cap*s':=XaH _ hnc
   have hul:us.length=es.length*s':=k2.1
   refine⟨g,(splice cur.toList (i*s'+off) [a.eval y]).toArray,by rw[hv];rfl,?_,fun hT hIS=>?_⟩
   ·have h8:=Yv (P:=X.P) (T:=T) (off:=i*s'+off) (v:=a.eval y) hg (by rw[ti.sized,hcells,hsz1];rfl) (by rw[hcells,hcs];simp;omega) (by rw[hcells];simpa using hone)
    rw[hcells]at h8
    simp only[execOp,ho,e6,Sem.run_bind,h8,Result.andThen]
    rfl
   ·have hSf:∀cr:Array Value,∀b∈z'.fs,Same w (w.setRow g cr) b:=fun cr b hb=>by
     cases dp with
     | false=>exact setRow_other w g b cr (fun e=>(k5 rfl b hb).2.2 z' hz' (.inl (by rw[hv,<-e];rfl)))
     | true=>exact setRow_other w g b cr (fun e=>((k7 rfl).2.1 b hb).2.2 (by rw[hv,<-e];rfl))
    have hrep:=QkO k4 k3 hel h0 hf0 g1
    unfold EntOk
    refine⟨s',us.set (i*s'+off) (a.eval y),k0,k1,?_,fun q hq=>?_,QH (by simp) _ _ _ hrep (hSf _),fun hd b hb=>(hIS b (k5 hd b hb)).1,k6,fun hd=>⟨(k7 hd).1,fun b hb=>⟨((k7 hd).2.1 b hb).1,by simpa using ((k7 hd).2.1 b hb).2.1,((k7 hd).2.1 b hb).2.2⟩,?_⟩⟩
    ·have hcl2:cur.toList.length=cap*s':=by rw[Xay];exact hcs
     refine⟨by rw[Xak,hul,Xak],.inr ⟨g,cap,_,by rw[hv,Xak],Xab _,setRow_heap w g cur _ e _ hg,by rw[Xak];exact hnc,hcm,?_,?_⟩⟩
     ·simp only[XbB]
      rw[QU (by simp;omega),Xay]
      exact hcs
     ·rw[Xak,<-htake]
      show(splice cur.toList (i*s'+off) [a.eval y]).take (es.length*s')=_
      rw[V6 (by simp;omega),QlX (by rw[htake];omega)]
    ·rcases Xbl hq with hq|rfl
     ·exact k3 q hq
     ·rw[Xak];exact hels
    ·have hN:NstL X.P w (es.set i (el.set off d)).flatten (us.set (i*s'+off) (a.eval y)):=fun j q u hj hu hne=>by
      rw[Wb k3 hel hoff,List.getElem?_set]at hj
      rw[List.getElem?_set]at hu
      split at hj
      ·split at hj
       ·simp only[Xal]at hj
        rw[hj]at hfd
        cases hfd
       ·cases hj
      ·rename_i hjj
       rw[if_neg hjj]at hu
       exact(k7 hd).2.2 j q u hj hu hne
     exact hN.same (Q4 hrep) (hSf _)
theorem VG{T e:TypeId}{x y:Operand}{p i off n:Nat}{es:List (List D)}{dp:Bool}{el:List D}{d0 d:D}[ti:TI X.P T](ho:o.op=.store T x y)(hd:o.dst=none)(hx:σ.ev x=.pr p i off)(hp:Qm σ.ob p=some (.row e (es.set i el) dp))(hy:σ.ev y=.d d)
  (hn:es.length=n) (hlt:i<n) (h0:el[off]?=some d0) (hf0:d0.flat1=true) (hfd:d.flat1=true) (hl:Nat.beq ti.size 1=true)
  (hK:K ⟨σ.nt,σ.sl,(p,.row e (es.set i (el.set off d)) dp)::YB p σ.ob⟩):OpOk X o σ K:=
 WS ho hd hx hp hy (by rw[Xak];exact hn) hlt (List.getElem?_set_self (by omega)) h0 hf0 hfd hl (by rw[List.set_set];exact hK)
theorem QpI{T e:TypeId}{x y:Operand}{p j n:Nat}{er:TypeId}{es:List (List D)}{dp:Bool}{i:Int}[te:TI X.P e](ho:o.op=.indexAddr T x y)(hd:o.dst=some t)(hT:Ju X T=some e)(hx:σ.ev x=.row p)(hp:Qm σ.ob p=some (.row er es dp))(hsz:(X.P.info? er).map (·.size)=some te.size)(hy:σ.ev y=.d (.n .i64 i))
  (hi:i=(j:Int)) (hn:es.length=n) (hlt:j<n) (ht:Nat.blt t σ.nt=true) (hK:K (σ.put t (.pr p j 0))):QOk X o σ K:=
 Je hd ht (fun a w en h=>by
  subst hi
  obtain⟨z,hz,hzn,hza⟩:=h.ent hp
  obtain⟨z',hz',e1,e2,e3⟩:=QP h hx
  have:=h.mem.ent_unique hz' hz (e1.trans hzn.symm)
  subst this
  obtain⟨G,⟨ey,_⟩,_⟩:=QP h hy
  have hok:=h.mem.ok z' hz
  unfold EntOk at hok
  rw[hza]at hok
  obtain⟨s,us,k1,k2,k3,k4,k5,_⟩:=hok
  obtain⟨A,c,g1,g2,g3,g4,g5⟩:=Jx k3
  obtain⟨g,g6⟩:=g5 (by omega)
  have hu:=QL hT
  have hlt':j<es.length:=by omega
  have hs:s=te.size:=by rw[hsz]at k1;injection k1 with k1;exact k1.symm
  subst hs
  refine⟨.pointer (some ⟨g,j*te.size,none⟩),fun w' _=>?_,z',hz,hzn,e2,g,te.size,by rw[g1,g6];rfl,?_,by rw[hza];simpa [AO.lens] using hlt',by simp⟩
  ·obtain⟨q,h12,_,h13,_⟩:=te.parts
   rw[g1,g6]at e3
   have hj:(0:Int)<=(j:Int)/\(j:Int)<(es.length:Int):=by omega
   simp[execOp,ho,e3,ey,Instr.indexAt,asIntOf,run_underlying hu,hj,hlt',sizeOf,typeInfo,h12,h13,Sem.run_pure,J5]
  ·rw[hza]
   intro l hl
   obtain⟨el,hel,rfl⟩:=Xad.1 hl
   exact k4 el hel) hK
end

theorem QaB{z:Nat}:∀{n:Nat} {ds:List D},ds.length=n*z->(chunk z n ds).flatten=ds
 | 0,ds,h=>by
  have:ds=[]:=XaA (by simpa using h)
  subst this
  rfl
 | n+1,ds,h=>by
  rw[XaR,XbS]at h
  rw[chunk,XbK,QaB (by simp;omega),XaO]
def QfF(p q:Nat):Nat->Bool:=fun n=>!isPQ p q n
theorem QtE{p q n:Nat}(h:QfF p q n=false):isPQ p q n=true:=by unfold QfF at h;simpa using h
section
variable {X:Cx} {σ:AS} {o:Oper} {K:AS->Prop} {t:Nat}
theorem JO.addNil{a:Act}{w:World}{en:List Ent}(h:JO X σ a w en)(n:Nat){e:TypeId}{z:Nat}(hi:(X.P.info? e).map (·.size)=some z)(hz:0<z)(hf:Yz X.fre n σ.ob=true):JO X ⟨σ.nt,σ.sl,(n,.row e [] true)::Ya (fun _=>false) (fun _=>true) σ.ob⟩ a w (⟨n,.row e [] true,.slice none 0 0,[]⟩::WJ (fun _=>false) (fun _=>true) en):=by
 have hno:∀x∈en,x.nm≠n:=fun x hx e=>by
  have:hasN n σ.ob=true:=Q9.2 ⟨x.key,h.ob.mem_iff.1 (Xad.2 ⟨x,hx,rfl⟩),e⟩
  rw[(Q0 hf).1]at this;cases this
 have hs:X7 X.P X.w0 X.Z X.O en w w (fun _=>false) [⟨n,.row e [] true,.slice none 0 0,[]⟩] (fun _=>true):=by
  refine⟨h.mem,fun n hn=>Bool.noConfusion hn,fun x hx hd _=>Bool.noConfusion hd,rfl,rfl,rfl,Xam _,fun b _ _=>rfl,fun y hy b hb=>?_,fun y hy x hx _=>?_,by simp,by simp,fun y hy=>?_⟩
  ·obtain rfl:y=_:=by simpa using hy
   rcases hb with hb|⟨_,hb⟩ <;> cases hb
  ·obtain rfl:y=_:=by simpa using hy
   exact hno x hx
  ·obtain rfl:y=_:=by simpa using hy
   exact X.Z.lo _ _ (Q0 hf).2
 have h9:=h.swap2 hs (fun y hy=>by
  obtain rfl:y=_:=by simpa using hy
  unfold EntOk
  exact⟨z,[],hi,hz,World.ownsRow_nil w 0 e z,by simp,⟨rfl,rfl⟩,by simp,fun g hg=>by simp[blk]at hg,fun _=>⟨by simp,by simp,NstL.nil ⟨rfl,rfl⟩⟩⟩)
 rw[Qaw]at h9
 exact h9
theorem Vz(t n:Nat){c:Code}{Q:Exit->AS->Prop}(e:TypeId)[te:TI X.P e](hv:look σ.sl t=.nil)(hz:Nat.blt 0 te.size=true)(hf:Yz X.fre n σ.ob=true)(h:AWp X c Q ⟨σ.nt,(t,.row n)::σ.sl,(n,.row e [] true)::Ya (fun _=>false) (fun _=>true) σ.ob⟩):AWp X c Q σ:=fun a w ⟨en,hr⟩=>by
 have h1:=hr.addNil n te.sized (Jg hz) hf
 refine h a w ⟨_,h1.mem,h1.ob,h1.defers,h1.size,fun s=>?_⟩
 simp only[QM]
 split
 ·rename_i e1
  subst e1
  have:=hr.slots t
  rw[hv]at this
  rw[show a.tmps.getD t undef=.slice none 0 0 from this]
  exact⟨_,Xaa,rfl,rfl,rfl⟩
 ·exact h1.slots s
theorem Vd{T e eq:TypeId}{len q:Nat}{parts:Array (Nat×Operand)}{cs pre post:List AV}{dpre dpost:List D}{esq es:List (List D)}{dq:Bool}[te:TI X.P e](ho:o.op=.buildSlice T len parts)(hd:o.dst=some t)(hT:Ju X T=some e)(hk:Vg te)(hz1:te.zero.cells.toList.all Value.oneCell'=true)
  (hcs:QiF te.size (QeQ te.zero len) (σ.evParts parts.toList)=some cs) (hsp:Qio cs=some (pre,q,post)) (hpre:YP pre=some dpre) (hpost:YP post=some dpost) (hq:Qm σ.ob q=some (.row eq esq dq))
  (hfp:dpre.all D.flat1=true) (hfo:dpost.all D.flat1=true) (hfq:YT esq=true) (hl:Nat.beq (dpre.length+(1+dpost.length)) (len*te.size)=true) (hsm:Nat.ble (len*te.size) 16777216=true) (hes:Qc1 (chunk te.size len (dpre++.sl esq::dpost)) some=some es) (hf:Yz X.fre t σ.ob=true) (ht:Nat.blt t σ.nt=true)
  (hK:K ⟨σ.nt,(t,.row t)::cutS (notN q) σ.sl,(t,.row e es true)::Ya (isPQ q q) (notN q) σ.ob⟩):OpOk X o σ K:=by
 intro a w hr next Q hn'
 obtain⟨en,h1⟩:=hr
 rw[Qau]at hes
 injection hes with hes
 subst hes
 have hu:=QL hT
 obtain⟨qi,q1,q2,q3,q4⟩:=te.parts
 have hpos:=Jg hk.pos
 have hzc:te.zero.cells.size=te.size:=(Qg _ _).1 hk.zero
 have hmade:((Array.range (len*te.size)).map (te.zero.cells[· % te.zero.cells.size]!)).toList=(List.replicate len te.zero.cells.toList).flatten:=by
  have h0:=VZ te.zero.cells len (by omega)
  rw[show len*te.zero.cells.size=len*te.size by rw[hzc]]at h0
  exact h0
 obtain⟨hp1,hp2⟩:=VH h1 parts.toList
 obtain⟨r,r1,r2,r3⟩:=Qcg (vs:=parts.toList.map fun x=>(x.1,a.eval x.2)) (cells:=(Array.range (len*te.size)).map (te.zero.cells[· % te.zero.cells.size]!)) h1.mem hcs
  (by rw[hmade];exact Xa te.zero len) (by rw[hmade];exact QcH hz1 len) hp1 hp2
 obtain⟨yq,hyq,hyqn,hyqa,Fq,hFq,hFn,hFb,hFo⟩:=QkG h1 hq hfq
 rw[Qgu hsp]at r2
 obtain⟨u1,u,u2,hcells,s1,s2,s3⟩:=Z7 r2
 obtain⟨F1,f1,_⟩:=Yn hpre s1
 obtain⟨F2,f2,_⟩:=Yn hpost s3
 have:=Jw f1 (Jd hfp);subst this
 have:=Jw f2 (Jd hfo);subst this
 have hu':u=yq.val:=by
  obtain⟨y',hy',g1,_,g3⟩:=s2
  have:=h1.mem.ent_unique hy' hyq (g1.trans hyqn.symm)
  rw[g3,this]
 subst hu'
 have hds:repL w (dpre++D.sl esq::dpost) (u1++yq.val::u2) Fq:=by
  have:=JE f1 (show repL w (D.sl esq::dpost) (yq.val::u2) Fq from⟨_,_,Fq,[],rfl,by simp,hFq,f2⟩)
  simpa using this
 rw[<-hcells]at hds
 have hnq:NstL X.P w (dpre++D.sl esq::dpost) r.toList:=by
  rw[hcells]
  refine NstL.app (QA f1) (.flat (Jd hfp)) ?_
  intro j es' u' hj hu' hne
  cases j with
  | zero=>
   simp only[List.getElem?_cons_zero,Xal,D.sl.injEq]at hj hu'
   subst hj;subst hu'
   obtain⟨zq,vq,a1,a2,a3,a4⟩:=hFo hne
   exact⟨eq,zq,vq,a1,a2,a3,a4⟩
  | succ j=>
   simp only[List.getElem?_cons_succ]at hj hu'
   exact(NstL.flat (P:=X.P) (w:=w) (us:=u2) (Jd hfo)) j es' u' hj hu' hne
 have hlen:(dpre++D.sl esq::dpost).length=len*te.size:=by rw[<-(Qg _ _).1 hl];simp;omega
 obtain⟨g1,g2,g3⟩:=Qb9 hlen hds
 have hrl:r.toList.length=len*te.size:=by rw[QA hds];exact hlen
 have hmx:len<=16777216:=by
  have:=XaJ hsm
  exact Xao (Xce len hpos) this
 let w':=w.alloc (.cells r e)
 have hx:Ext w w':=Ext.alloc_ w _
 have hrun:(execOp a.eval o).run X.P w=.ok (.value (.slice (some ⟨w.heap.size,0,none⟩) len len)) w':=by
  have hmp:parts.map (fun(x:Nat×Operand)=>(x.1,a.eval x.2))=(parts.toList.map fun x=>(x.1,a.eval x.2)).toArray:=by cases parts;simp
  have hsm':¬(len*te.size>2 ^ 24):=by have:=XaJ hsm;omega
  have hrun:(Instr.buildSlice T len (parts.map fun(x:Nat×Operand)=>(x.1,a.eval x.2))).run X.P w=.ok (.slice (some ⟨w.heap.size,0,none⟩) len len) (w.alloc (.cells r e)):=by
   rw[hmp]
   have h0:len*te.size≠0:=by rw[<-hlen];simp
   exact run_buildSlice w T e len _ r qi te.zero hu q1 q2 (by rw[q3];exact hsm') (by rw[q3];exact h0) (by rw[q3];exact r1)
  simp only[execOp,ho,Sem.run_bind,hrun,Result.andThen]
  rfl
 let x':Ent:=⟨t,.row e (chunk te.size len (dpre++D.sl esq::dpost)) true,.slice (some ⟨w.heap.size,0,none⟩) len len,Fq⟩
 have hno:∀x∈en,x.nm≠t:=fun x hx e=>by
  have:hasN t σ.ob=true:=Q9.2 ⟨x.key,h1.ob.mem_iff.1 (Xad.2 ⟨x,hx,rfl⟩),e⟩
  rw[(Q0 hf).1]at this;cases this
 have hqd:isPQ q q yq.nm=true:=Q1.2 (.inl hyqn)
 have hs:X7 X.P X.w0 X.Z X.O en w w' (isPQ q q) [x'] (notN q):=by
  refine⟨h1.mem,fun n hn=>?_,fun x hx hd hpx=>?_,hx.os,hx.tape,hx.output,hx.size,fun b hb _=>hx.block b hb,fun y hy b hb=>?_,fun y hy x hx _=>?_,by simp,by simp,fun y hy=>?_⟩
  ·refine Q1.2 (.inl ?_)
   unfold notN at hn
   exact(Qg _ _).1 (by simpa using hn)
  ·rw[(Q1.1 hd).elim id id,VO]at hpx
   cases hpx
  ·obtain rfl:y=x':=by simpa using hy
   rcases hb with hb|⟨_,hb⟩
   ·have:some w.heap.size=some b:=hb
    injection this with this
    exact .inl (XbR this)
   ·exact .inr ⟨yq,hyq,hqd,.inl (hFb b hb)⟩
  ·obtain rfl:y=x':=by simpa using hy
   exact hno x hx
  ·obtain rfl:y=x':=by simpa using hy
   exact X.Z.lo _ _ (Q0 hf).2
 have hlt:∀b∈Fq,b<w.heap.size:=fun b hb=>((h1.mem.ok yq hyq).lt (hFb b hb)).1
 have h9:=h1.swap2 hs (fun y hy=>by
  obtain rfl:y=x':=by simpa using hy
  unfold EntOk
  refine⟨te.size,r.toList,te.sized,hpos,?_,g2,QH hx.size _ _ _ g1 (fun b hb=>hx.block b (hlt b hb)),fun h=>Bool.noConfusion h,fun g hg=>?_,fun _=>⟨hFn,fun b hb=>⟨((h1.mem.ok yq hyq).lt (hFb b hb)).2,XaL (hlt b hb) hx.size,fun hq=>?_⟩,?_⟩⟩
  ·rw[g3]
   refine⟨hrl,.inr ⟨w.heap.size,len,r,rfl,Xab _,heap_alloc_new w _,Xam _,by unfold maxLen;omega,by rw[<-Xay];exact hrl,by rw[<-hrl];exact Xap⟩⟩
  ·have:some w.heap.size=some g:=hg
   injection this with this
   subst this
   exact .inr h1.mem.size
  ·have:some w.heap.size=some b:=hq
   injection this with this
   have:=hlt b hb
   omega
  ·rw[QaB hlen]
   exact hnq.same hds (fun b hb=>hx.block b (hlt b hb)))
 unfold Oper.wp
 rw[hrun,Oper.upon_value,hd]
 exact hn' _ _ _ hK ⟨_,h9.put (t:=t) (v:=.row t) (u:=.slice (some ⟨w.heap.size,0,none⟩) len len) ⟨x',Xaa,rfl,rfl,rfl⟩ ht⟩
theorem JX{s x:Operand}{T e:TypeId}{p q:Nat}{es es2:List (List D)}{n1 n2:Nat}[te:TI X.P e](ho:o.op=.call { callee:=.builtin .append,args:=#[s,x],argTypes:=#[T,T] })(hd:o.dst=some t)(hT:Ju X T=some e)
  (hs:σ.ev s=.row p) (hp:Qm σ.ob p=some (.row e es true)) (hx:σ.ev x=.row q) (hq:Qm σ.ob q=some (.row e es2 true)) (hpq:Nat.beq p q=false) (hk:Vg te) (hn1:es.length=n1) (hn2:es2.length=n2) (hb:n1+n2<=1099511627776) (hlo:X.fre p=true) (ht:Nat.blt t σ.nt=true)
  (hK:K ⟨σ.nt,(t,.row p)::cutS (QfF p q) σ.sl,(p,.row e (es++es2) true)::Ya (isPQ p q) (QfF p q) σ.ob⟩):OpOk X o σ K:=by
 intro a w hr next Q hn
 obtain⟨en,h1⟩:=hr
 have hpq':p≠q:=fun e=>by rw[(Qg p q).2 e]at hpq;cases hpq
 have hu:=QL hT
 obtain⟨y,hy,hyn,hya⟩:=h1.ent hp
 have hok:=h1.mem.ok y hy
 unfold EntOk at hok
 rw[hya]at hok
 obtain⟨z,us,k0,k1,k2,k3,k4,k5,k6,k7⟩:=hok
 obtain⟨k7a,k7b,k7c⟩:=k7 rfl
 obtain⟨yq,hyq,hyqn,hyqa⟩:=h1.ent hq
 have hokq:=h1.mem.ok yq hyq
 unfold EntOk at hokq
 rw[hyqa]at hokq
 obtain⟨zq,usq,j0,j1,j2,j3,j4,j5,j6,j7⟩:=hokq
 obtain⟨j7a,j7b,j7c⟩:=j7 rfl
 obtain⟨qi,q1,q2,q3,q4⟩:=te.parts
 have hzz:z=te.size:=by rw[te.sized]at k0;simpa using k0.symm
 subst hzz
 have hzq:zq=te.size:=by rw[te.sized]at j0;simpa using j0.symm
 subst hzq
 obtain⟨y',hy',f1,f2,f3⟩:=QP h1 hs
 have:=h1.mem.ent_unique hy' hy (f1.trans hyn.symm)
 subst this
 obtain⟨y2,hy2,f4,f5,f6⟩:=QP h1 hx
 have:=h1.mem.ent_unique hy2 hyq (f4.trans hyqn.symm)
 subst this
 obtain⟨A,cap,e1,g2,g3,g4,g5⟩:=Jx j2
 have hRd:Rd w te.size A es2.length cap usq:=by
  refine⟨j2.1,g2,⟨by unfold maxLen at g3;omega,g4⟩,fun hn=>?_⟩
  obtain⟨g,hg⟩:=g5 hn
  subst hg
  refine⟨g,0,rfl,fun j v hj=>?_⟩
  rw[e1]at j2
  have hl':=(List.getElem?_eq_some_iff.1 hj).1
  rw[j2.1]at hl'
  rw[XaZ,j2.cellAt j hl']
  exact hj
 have hb':es.length+es2.length<=1099511627776:=by rw[hn1,hn2];exact hb
 obtain⟨v',w',r1,r2,r3,r4⟩:=YM (P:=X.P) 0 T o.type e qi te.zero te.size te.bytes hu q1 q2 q3 q4 ((Qg _ _).1 hk.zero) k1 y'.val es.length us k2 A es2.length cap usq hRd (ZP j4)
  (by unfold maxLen;omega) (Zw hb' hk.bytes) (Xab _)
 have hrun:(execOp a.eval o).run X.P w=.ok (.value v') w':=by
  unfold execOp
  simp only[ho,resolve,invoke,builtin,Sem.run_bind,Sem.run_pure,Result.andThen_ok,Xbr,Xaw,Xbb,f3,f6,e1,r1]
 let x':Ent:=⟨p,.row e (es++es2) true,v',y'.fs++y2.fs⟩
 have hzq:y'.nm≠y2.nm:=by rw[hyn,hyqn];exact hpq'
 have hsame:∀b,b<w.heap.size->blk y'.val≠some b->Same w w' b:=fun b hb hne=>r3.block b hb (by rw[QfC k2];exact fun e=>hne e.symm)
 have hdp:isPQ p q y'.nm=true:=Q1.2 (.inl hyn)
 have hdq:isPQ p q y2.nm=true:=Q1.2 (.inr hyqn)
 have hS1:∀b∈y'.fs,Same w w' b:=fun b hb=>hsame b (k7b b hb).2.1 (k7b b hb).2.2
 have hne2:∀b∈y2.fs,blk y'.val≠some b:=fun b hb e=>h1.mem.hd_ne hy hyq hzq (.inl e) (.inr ⟨by rw[hyqa];rfl,hb⟩)
 have hS2:∀b∈y2.fs,Same w w' b:=fun b hb=>hsame b (j7b b hb).2.1 (hne2 b hb)
 have hsw:X7 X.P X.w0 X.Z X.O en w w' (isPQ p q) [x'] (QfF p q):=by
  refine⟨h1.mem,fun n hn=>QtE hn,fun x hx hd hpx=>?_,r3.os,r3.tape,r3.output,r3.size,fun b hb hno=>hsame b hb (fun e=>hno y' hy hdp (.inl e)),fun z hz b hb=>?_,fun z hz x hx hd e=>?_,by simp,by simp,fun z hz=>?_⟩
  ·unfold QfF at hpx
   rw[hd]at hpx;cases hpx
  ·obtain rfl:z=x':=by simpa using hz
   rcases hb with hb|⟨_,hb⟩
   ·rcases r4 b hb with h|h
    ·exact .inl h
    ·exact .inr ⟨y',hy,hdp,.inl h⟩
   ·rcases Xag.1 hb with hb|hb
    ·exact .inr ⟨y',hy,hdp,.inr ⟨by rw[hya];rfl,hb⟩⟩
    ·exact .inr ⟨y2,hyq,hdq,.inr ⟨by rw[hyqa];rfl,hb⟩⟩
  ·obtain rfl:z=x':=by simpa using hz
   rw[Q1.2 (.inl e)]at hd;cases hd
  ·obtain rfl:z=x':=by simpa using hz
   exact X.Z.lo _ _ hlo
 have hrep:=J3 (QH r3.size _ _ _ k4 hS1) (QH r3.size _ _ _ j4 hS2)
 have hrel:=h1.swap2 hsw (fun z hz=>by
  obtain rfl:z=x':=by simpa using hz
  unfold EntOk
  refine⟨te.size,us++usq,k0,k1,by rw[Xac];exact r2,fun l hl=>(Xag.1 hl).elim (k3 l) (j3 l),hrep,fun h=>Bool.noConfusion h,fun g hg=>?_,fun _=>⟨?_,fun b hb=>?_,?_⟩⟩
  ·rcases r4 g hg with h|h
   ·exact .inr (Xao h1.mem.size h)
   ·exact k6 g h
  ·show(y'.fs++y2.fs).Nodup
   rw[Xbe]
   refine⟨k7a,j7a,fun b hb c hc e=>?_⟩
   subst e
   exact h1.mem.hd_ne hy hyq hzq (.inr ⟨by rw[hya];rfl,hb⟩) (.inr ⟨by rw[hyqa];rfl,hc⟩)
  ·have hbo:Frs X.w0 X.O b/\b<w.heap.size/\blk y'.val≠some b:=by
    rcases Xag.1 hb with hb|hb
    ·exact k7b b hb
    ·exact⟨(j7b b hb).1,(j7b b hb).2.1,hne2 b hb⟩
   refine⟨hbo.1,XaL hbo.2.1 r3.size,fun hq=>?_⟩
   rcases r4 b hq with h|h
   ·have:=hbo.2.1;omega
   ·exact hbo.2.2 h
  ·rw[Xct]
   exact NstL.app (QA (Q4 k4)) (k7c.same (Q4 k4) hS1) (j7c.same (Q4 j4) hS2))
 unfold Oper.wp
 rw[hrun,Oper.upon_value,hd]
 exact hn _ _ _ hK ⟨_,hrel.put (t:=t) (v:=.row p) (u:=v') ⟨x',Xaa,rfl,rfl,rfl⟩ ht⟩
end
end
end Go.Proofs.YtihgfennoalocaaGreat
