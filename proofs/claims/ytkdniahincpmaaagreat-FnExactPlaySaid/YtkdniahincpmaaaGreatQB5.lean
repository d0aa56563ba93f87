/-
  The walk over abstract states: steps that take several objects and leave others, so that a row may come to own the slices within its elements.
-/
import Derived.Test.YtkdniahincpmaaaGreatQB4
set_option maxRecDepth 100000
set_option maxHeartbeats 16000000
namespace Go.Proofs.YtkdniahincpmaaaGreat
open Go Go.RowKit
section

def Vp(del:Nat->Bool)(p:Nat->Bool)(en:List Ent):List Ent:=(en.filter (fun y=>!del y.nm)).map (Ent.cut p)
section swap
variable {P:Program} {w0:World} {f:Nat->Bool} {Z:ZV f} {O:Nat->Prop} {en:List Ent} {w w':World} {del:Nat->Bool} {ys:List Ent} {p:Nat->Bool}
theorem Zl{y:Ent}(hy:y∈Vp del p en):∃z∈en,del z.nm=false/\y=z.cut p:=by
 simp only[Vp,Xaf,XaB,Xa6]at hy
 obtain⟨z,⟨a,b⟩,rfl⟩:=hy
 exact⟨z,a,b,rfl⟩
theorem Qrd{z:Ent}(hz:z∈en)(ho:del z.nm=false):z.cut p∈Vp del p en:=by
 simp only[Vp,Xaf,XaB,Xa6]
 exact⟨z,⟨hz,ho⟩,rfl⟩
structure QaQ {f:Nat->Bool} (P:Program) (w0:World) (Z:ZV f) (O:Nat->Prop) (en:List Ent) (w w':World) (del:Nat->Bool) (ys:List Ent) (p:Nat->Bool):Prop where
 mem:Mem P w0 Z O en w
 hp:∀n,p n=false->del n=true
 hk:∀x∈en,del x.nm=true->p x.nm=true->∃y∈ys,Like x y
 os:w'.os=w.os
 tape:w'.tape=w.tape
 output:w'.output=w.output
 hsz:w.heap.size<=w'.heap.size
 hS:∀b,b<w.heap.size->(∀x∈en,del x.nm=true->¬x.hd b)->Same w w' b
 hb:∀y∈ys,∀b,y.hd b->w.heap.size<=b\/∃x∈en,del x.nm=true/\x.hd b
 nm:∀y∈ys,∀x∈en,del x.nm=false->x.nm≠y.nm
 nd:(ys.map Ent.nm).Nodup
 ap:ys.Pairwise fun x y=>∀b,x.hd b->¬y.hd b
 fx:∀y∈ys,Z.fx y.nm y.val
variable (h:QaQ P w0 Z O en w w' del ys p)
include h
theorem QaQ.imm{b:Nat}(hi:Imm w0 Z O en w b):Imm w0 Z O (ys++Vp del p en) w' b:=by
 refine⟨hi.1,XaO hi.2.1 h.hsz,fun y hy=>?_⟩
 rcases Xag.1 hy with hy|hy
 ·intro hb
  rcases h.hb y hy b hb with h1|⟨x,hx,_,h1⟩
  ·have:=hi.2.1;omega
  ·exact hi.2.2 x hx h1
 ·obtain⟨z,a,_,rfl⟩:=Zl hy
  exact fun hb=>hi.2.2 z a ((Ent.hd_cut p z b).1 hb)
theorem QaQ.same{b:Nat}(hi:Imm w0 Z O en w b):Same w w' b:=h.hS b hi.2.1 (fun x hx _=>hi.2.2 x hx)
theorem QaQ.like:∀x∈en,p x.nm=true->∃y∈ys++Vp del p en,Like x y:=by
 intro x c a
 cases b:del x.nm with
 | true=>
  obtain⟨y,e,d⟩:=h.hk x c b a
  exact⟨y,Xat _ e,d⟩
 | false=>exact⟨x.cut p,Xav _ (Qrd c b),rfl,rfl,AO.cut_isRow p x.ao,AO.cut_lens p x.ao⟩
theorem QaQ.shows{v:AV}{u:Value}(hv:v.shows w en (Imm w0 Z O en w) u):(v.cut p).shows w' (ys++Vp del p en) (Imm w0 Z O (ys++Vp del p en) w') u:=
 AV.shows_cut h.hsz (fun _ hb=>h.same hb) (fun _ hb=>h.imm hb) h.like v u hv
theorem QaQ.done(hok:∀y∈ys,EntOk P (Frs w0 O) w' (ys++Vp del p en) (Imm w0 Z O (ys++Vp del p en) w') y):Mem P w0 Z O (ys++Vp del p en) w':=by
 have m:=h.mem
 have d:∀y∈en,del y.nm=false->∀b,y.hd b->Same w w' b:=fun y a hn b hb=>
  h.hS b ((m.ok y a).lth hb).1 (fun x hx ho hb'=>m.hd_ne a hx (fun e=>by rw[e,ho]at hn;cases hn) hb hb')
 have g:(ys++Vp del p en).Pairwise fun x y=>∀b,x.hd b->¬y.hd b:=by
  rw[Xbk]
  refine⟨h.ap,XaX _ (fun x y hxy b h1 h2=>hxy b ((Ent.hd_cut p x b).1 h1) ((Ent.hd_cut p y b).1 h2)) (Xa1 XaC m.blks),fun y a q j b hb hbq=>?_⟩
  obtain⟨z,f,c,rfl⟩:=Zl j
  have i:=(Ent.hd_cut p z b).1 hbq
  rcases h.hb y a b hb with h1|⟨x,hx,hxo,h1⟩
  ·have:=((m.ok z f).lth i).1;omega
  ·exact m.hd_ne hx f (fun e=>by rw[<-e,hxo]at c;cases c) h1 i
 refine⟨h.os.trans m.os,h.tape.trans m.tape,h.output.trans m.output,Xam m.size h.hsz,?_,?_,g,?_,?_,fun y a=>?_⟩
 ·intro b hb k
  refine(h.hS b (XaO hb m.size) (fun x hx _ hbx=>?_)).trans (m.old b hb k)
  rcases((m.ok x hx).lth hbx).2 with h1|h1
  ·exact k h1
  ·omega
 ·rw[XaG,Xbg]
  refine⟨h.nd,?_,fun n hn n' hn' e=>?_⟩
  ·have:(Vp del p en).map Ent.nm=(en.filter (fun y=>!del y.nm)).map Ent.nm:=by
    simp only[Vp,XaR]
    rfl
   rw[this]
   exact Xbw (XbI _ XaC) m.names
  ·subst e
   obtain⟨y,a,l⟩:=Xaf.1 hn
   obtain⟨q,j,o⟩:=Xaf.1 hn'
   obtain⟨z,f,c,rfl⟩:=Zl j
   exact h.nm y a z f c (o.trans l.symm)
 ·intro y a
  rcases Xag.1 a with a|a
  ·exact hok y a
  ·obtain⟨z,f,c,rfl⟩:=Zl a
   exact(m.ok z f).mono h.hsz (fun _ hb=>h.same hb) (fun _ hb=>h.imm hb) (fun _ hb=>hb) (d z f c) h.like
 ·exact g.imp fun hxy h1 h2 b hb hb'=>hxy b (.inr ⟨h1,hb⟩) (.inr ⟨h2,hb'⟩)
 ·rcases Xag.1 a with a|a
  ·exact h.fx y a
  ·obtain⟨z,f,_,rfl⟩:=Zl a
   exact m.fix z f
end swap
def Ym(del p:Nat->Bool)(ob:List (Nat×AO)):List (Nat×AO):=(ob.filter (fun y=>!del y.1)).map fun y=>(y.1,y.2.cut p)
theorem J2.swap2{X:Cx}{σ:AS}{a:Act}{w w':World}{en:List Ent}(h:J2 X σ a w en){del:Nat->Bool}{ys:List Ent}{p:Nat->Bool}(hs:QaQ X.P X.w0 X.Z X.O en w w' del ys p)
  (hok:∀y∈ys,EntOk X.P (Frs X.w0 X.O) w' (ys++Vp del p en) (IM X (ys++Vp del p en) w') y) :
  J2 X ⟨σ.nt,cutS p σ.sl,ys.map Ent.key++Ym del p σ.ob⟩ a w' (ys++Vp del p en):=by
 refine⟨hs.done hok,?_,h.defers,h.size,fun t=>?_⟩
 ·rw[XaG]
  refine Xco _ ?_
  have e:(Vp del p en).map Ent.key=Ym del p (en.map Ent.key):=by
   simp only[Ym,Vp,XaR,XbQ]
   rfl
  rw[e]
  exact(h.ob.filter _).map _
 ·simp only[WV]
  exact hs.shows (h.slots t)

theorem QiR{w:World}{ds el:List D}{us vs:List Value}{F:List Nat}(h:repL w el us [])(h':repL w ds vs F)(k:Nat):repL w (splice el k ds) (splice us k vs) F:=by
 have e:=Qy h'
 unfold splice
 obtain⟨G1,c,a⟩:=Qbx h k
 obtain⟨G2,d,b⟩:=Zc h (k+ds.length)
 have:=Qaa a;subst this
 have:=Qaa b;subst this
 rw[e]
 have:=JS (JS c h') d
 simpa using this
theorem Qi9{w:World}{z:Nat}:∀{es:List (List D)} {us:List Value} {F:List Nat} {i off:Nat} {el ds:List D} {vs:List Value} {G:List Nat},repE w es us F->(∀e∈es,e.length=z)->es[i]?=some el->el.all D.flat=true->repL w ds vs G->off+ds.length<=z->
  ∃F1 F2,F=F1++F2/\repE w (es.set i (splice el off ds)) (splice us (i*z+off) vs) (F1++G++F2)
 | [],us,F,i,off,el,ds,vs,G,_,_,hi,_,_,_=>by simp at hi
 | e::es,us,F,i,off,el,ds,vs,G,h,hz,hi,hfl,h',hle=>by
  obtain⟨u1,u2,F1,F2,rfl,rfl,k1,k2⟩:=h
  have hl1:u1.length=z:=by rw[Qy k1];exact hz e Xaa
  have hvl:=Qy h'
  cases i with
  | zero=>
   simp only[List.getElem?_cons_zero,Xak]at hi
   subst hi
   have hF1:=JF k1 hfl
   subst hF1
   refine⟨[],F2,rfl,?_⟩
   rw[Xbx,Xbo,XaZ,QaH (by omega)]
   exact⟨_,_,G,F2,rfl,by simp,QiR k1 h' off,k2⟩
  | succ i=>
   simp only[List.getElem?_cons_succ]at hi
   have e1:(i+1)*z+off=u1.length+(i*z+off):=by rw[hl1,XaU];omega
   obtain⟨G1,G2,rfl,g1⟩:=Qi9 k2 (fun x hx=>hz x (Xad _ hx)) hi hfl h' hle
   refine⟨F1++G1,G2,by simp,?_⟩
   rw[Xb2,e1,Z6]
   exact⟨_,_,F1,G1++G++G2,rfl,by simp,k1,g1⟩
theorem QiB{w:World}:∀{ds:List D} {us:List Value} {F:List Nat} {k:Nat} {d:D},repL w ds us F->ds[k]?=some d->
  ∃u G F1 F2,us[k]?=some u/\d.rep w u G/\F=F1++G++F2/\∀w' d' G',w.heap.size<=w'.heap.size->(∀b∈F1++F2,Same w w' b)->D.rep w' d' u G'->repL w' (ds.set k d') us (F1++G'++F2)
 | [],_,_,k,d,_,hk=>by simp at hk
 | d0::ds,us,F,k,d,h,hk=>by
  obtain⟨u,us',F1,F2,rfl,rfl,h1,h2⟩:=h
  cases k with
  | zero=>
   simp only[List.getElem?_cons_zero,Xak]at hk
   subst hk
   refine⟨u,F1,[],F2,rfl,h1,rfl,fun w' d' G' hs hS hd=>?_⟩
   exact⟨u,us',G',F2,rfl,rfl,hd,Vz hs _ _ _ h2 (fun b hb=>hS b (by simpa using hb))⟩
  | succ k=>
   obtain⟨v,G,G1,G2,k1,k2,rfl,k3⟩:=QiB h2 (k:=k) (by simpa using hk)
   refine⟨v,G,F1++G1,G2,by simpa using k1,k2,by simp,fun w' d' G' hs hS hd=>?_⟩
   refine⟨u,us',F1,G1++G'++G2,rfl,by simp,D.rep_mono hs _ _ _ h1 (fun b hb=>hS b (by simp[hb])),k3 w' d' G' hs (fun b hb=>hS b ?_) hd⟩
   rcases List.mem_append.1 hb with hb|hb <;> simp[hb]
theorem QeT{w:World}{z:Nat}:∀{es:List (List D)} {us:List Value} {F:List Nat} {i k:Nat} {el:List D} {d:D},repE w es us F->(∀e∈es,e.length=z)->es[i]?=some el->el[k]?=some d->
  ∃u G F1 F2,us[i*z+k]?=some u/\d.rep w u G/\F=F1++G++F2/\∀w' d' G',w.heap.size<=w'.heap.size->(∀b∈F1++F2,Same w w' b)->D.rep w' d' u G'->repE w' (es.set i (el.set k d')) us (F1++G'++F2)
 | [],_,_,i,k,el,d,_,_,hi,_=>by simp at hi
 | e::es,us,F,i,k,el,d,h,hz,hi,hk=>by
  obtain⟨u1,u2,F1,F2,rfl,rfl,h1,h2⟩:=h
  have hl1:u1.length=z:=by rw[Qy h1];exact hz e Xaa
  cases i with
  | zero=>
   simp only[List.getElem?_cons_zero,Xak]at hi
   subst hi
   obtain⟨v,G,G1,G2,k1,k2,rfl,k3⟩:=QiB h1 hk
   refine⟨v,G,G1,G2++F2,?_,k2,by simp,fun w' d' G' hs hS hd=>?_⟩
   ·rw[Xbo,XaZ,List.getElem?_append_left (List.getElem?_eq_some_iff.1 k1).1]
    exact k1
   ·refine⟨u1,u2,G1++G'++G2,F2,rfl,by simp,k3 w' d' G' hs (fun b hb=>hS b ?_) hd,QI hs _ _ _ h2 (fun b hb=>hS b (by simp[hb]))⟩
    rcases List.mem_append.1 hb with hb|hb <;> simp[hb]
  | succ i=>
   simp only[List.getElem?_cons_succ]at hi
   obtain⟨v,G,G1,G2,k1,k2,rfl,k3⟩:=QeT h2 (fun x hx=>hz x (Xad _ hx)) hi hk
   refine⟨v,G,F1++G1,G2,?_,k2,by simp,fun w' d' G' hs hS hd=>?_⟩
   ·rw[show(i+1)*z+k=u1.length+(i*z+k) by rw[hl1,XaU];omega,List.getElem?_append_right (by omega),Nat.add_sub_cancel_left]
    exact k1
   ·refine⟨u1,u2,F1,G1++G'++G2,rfl,by simp,Vz hs _ _ _ h1 (fun b hb=>hS b (by simp[hb])),k3 w' d' G' hs (fun b hb=>hS b ?_) hd⟩
    rcases List.mem_append.1 hb with hb|hb <;> simp[hb]

def QkF:List AV->Option (List AV×Nat×List AV)
 | []=>none
 | x::xs=>match x with
  | .row q=>some ([],q,xs)
  | x=>match QkF xs with
   | some (a,q,b)=>some (x::a,q,b)
   | none=>none
theorem Qgm:∀{xs pre post:List AV} {q:Nat},QkF xs=some (pre,q,post)->xs=pre++.row q::post
 | [],_,_,_,h=>by cases h
 | x::xs,pre,post,q,h=>by
  have key:∀y:AV,(match QkF xs with
   | some (a,q,b)=>some (y::a,q,b)
   | none=>none)=some (pre,q,post)->y::xs=pre++.row q::post:=fun y hy=>by
   split at hy
   ·rename_i a q' b hr
    injection hy with hy
    injection hy with e1 hy
    injection hy with e2 e3
    subst e1;subst e2;subst e3
    rw[Qgm hr];rfl
   ·cases hy
  cases x with
  | row q'=>
   simp only[QkF,Xak,Xci]at h
   obtain⟨rfl,rfl,rfl⟩:=h
   rfl
  | _=>exact key _ h
theorem Xn{w:World}{en:List Ent}{I:Nat->Prop}{r:AV}{post:List AV}:∀{pre:List AV} {us:List Value},Qn w en I (pre++r::post) us->∃u1 u u2,us=u1++u::u2/\Qn w en I pre u1/\r.shows w en I u/\Qn w en I post u2
 | [],us,h=>by
  obtain⟨u,us',rfl,h1,h2⟩:=h
  exact⟨[],u,us',rfl,rfl,h1,h2⟩
 | x::pre,us,h=>by
  obtain⟨u,us',rfl,h1,h2⟩:=h
  obtain⟨u1,v,u2,rfl,h3,h4,h5⟩:=Xn h2
  exact⟨u::u1,v,u2,rfl,⟨u,u1,rfl,h1,h3⟩,h4,h5⟩
theorem Ql4{X:Cx}{σ:AS}{a:Act}{w:World}{en:List Ent}(h:J2 X σ a w en){q:Nat}{e:TypeId}{es:List (List D)}{dq:Bool}(hq:Ql σ.ob q=some (.row e es dq))(hfl:Wg es=true) :
  ∃y∈en,y.nm=q/\y.ao=.row e es dq/\∃F,(D.sl es).rep w y.val F/\F.Nodup/\(∀b∈F,blk y.val=some b)/\(es≠[]->∃z us,(X.P.info? e).map (·.size)=some z/\0<z/\(∀el∈es,el.length=z)/\w.ownsRow 0 e z y.val es.length us):=by
 obtain⟨y,k,i,d,F,j,s⟩:=QaR h hq
 have c:=h.mem.ok y k
 unfold EntOk at c
 rw[d]at c
 obtain⟨z,us,t,u,v,x,k4,k5,k6,k7⟩:=c
 have g:=YE k4 (Yt hfl)
 refine⟨y,k,i,d,F,j,?_,fun b hb=>(s b hb).resolve_left (by rw[g];simp),fun _=>⟨z,us,t,u,x,v⟩⟩
 obtain⟨A,l,z',ab,F',_,_,_,_,_,m,r⟩:=j
 have f:=YE m (Yt hfl)
 subst f
 rcases r with ⟨_,rfl⟩|⟨_,b,o,_,_,rfl,_⟩ <;> simp
def isPQ(p q:Nat):Nat->Bool:=fun n=>bif Nat.beq n p then true else Nat.beq n q
theorem Q8{p q n:Nat}:isPQ p q n=true↔n=p\/n=q:=by
 unfold isPQ
 cases h:Nat.beq n p with
 | true=>simp[(Qg n p).1 h]
 | false=>
  simp only[cond_false,Qg]
  refine⟨.inr,fun h'=>h'.resolve_left fun e=>?_⟩
  rw[(Qg n p).2 e]at h;cases h
section
variable {X:Cx} {σ:AS} {o:Oper} {K:AS->Prop} {t:Nat}
theorem QqZ{T e eq:TypeId}{x y:Operand}{p i off n q:Nat}{es esq:List (List D)}{dq:Bool}{el dpre dpost:List D}{xs pre post:List AV}[ti:TI X.P T](ho:o.op=.store T x y)(hd:o.dst=none)(hx:σ.ev x=.pr p i off)(hp:Ql σ.ob p=some (.row e es true))(hy:(σ.ev y).cellsV=some xs)
  (hsp:QkF xs=some (pre,q,post)) (hpre:YY pre=some dpre) (hpost:YY post=some dpost) (hq:Ql σ.ob q=some (.row eq esq dq)) (hpq:Nat.beq p q=false)
  (hn:es.length=n) (hlt:i<n) (hel:es[i]?=some el) (hfe:el.all D.flat=true) (hfp:dpre.all D.flat1=true) (hfo:dpost.all D.flat1=true) (hfq:Wg esq=true) (hl:Nat.beq (dpre.length+(1+dpost.length)) ti.size=true) (hfit:Nat.ble (off+ti.size) el.length=true)
  (hK:K ⟨σ.nt,cutS (notN q) σ.sl,(p,.row e (es.set i (splice el off (dpre++.sl esq::dpost))) true)::Ym (isPQ p q) (notN q) σ.ob⟩):OpOk X o σ K:=by
 intro a w hr next Q bi
 obtain⟨en,k⟩:=hr
 have az:p≠q:=fun e=>by rw[(Qg p q).2 e]at hpq;cases hpq
 have bf:(dpre++D.sl esq::dpost).length=ti.size:=by rw[<-(Qg _ _).1 hl];simp;omega
 have bg:off+ti.size<=el.length:=XaL hfit
 obtain⟨z,hz,bn,t⟩:=k.ent hp
 have aq:=k.mem.ok z hz
 unfold EntOk at aq
 rw[t]at aq
 obtain⟨s,us,k0,k1,k2,k3,k4,k5,k6,k7⟩:=aq
 obtain⟨ah,ai,bp⟩:=k7 rfl
 obtain⟨z',d,e1,e2,g',f,e3,e4,e5,e6⟩:=QT k hx
 have:=k.mem.ent_unique d hz (e1.trans bn.symm)
 subst this
 rw[t]at e4 e5
 have bk:f=s:=by
  have:=e4 el.length (Xaf.2 ⟨el,List.mem_of_getElem? hel,rfl⟩)
  rw[<-this,k3 el (List.mem_of_getElem? hel)]
 subst bk
 have aw:el.length=f:=k3 el (List.mem_of_getElem? hel)
 obtain⟨yq,ab,ac,bw,Fq,be,bc,ae,bd⟩:=Ql4 k hq hfq
 obtain⟨h6,h7⟩:=YH k.mem hy (AS.ev_shows k y)
 rw[Qgm hsp]at h6
 obtain⟨u1,u,u2,r,s1,s2,s3⟩:=Xn h6
 obtain⟨F1,f1,_⟩:=YB hpre s1
 obtain⟨F2,f2,_⟩:=YB hpost s3
 have:=JF f1 (Jl hfp);subst this
 have:=JF f2 (Jl hfo);subst this
 have hu:u=yq.val:=by
  obtain⟨y',bm,g1,_,g3⟩:=s2
  have:=k.mem.ent_unique bm ab (g1.trans ac.symm)
  rw[g3,this]
 subst hu
 have ao:repL w (dpre++D.sl esq::dpost) (u1++yq.val::u2) Fq:=by
  have:=JS f1 (show repL w (D.sl esq::dpost) (yq.val::u2) Fq from⟨_,_,Fq,[],rfl,by simp,be,f2⟩)
  simpa using this
 rw[<-r]at ao
 have av:(a.eval y).cells.toList.length=ti.size:=by rw[Qy ao];exact bf
 have bj:NstL X.P w (dpre++D.sl esq::dpost) (a.eval y).cells.toList:=by
  rw[r]
  refine NstL.app (Qy f1) (.flat (Jl hfp)) ?_
  intro j ad u' hj ag ay
  cases j with
  | zero=>
   simp only[List.getElem?_cons_zero,Xak,D.sl.injEq]at hj ag
   subst hj;subst ag
   obtain⟨zq,vq,a1,a2,a3,a4⟩:=bd ay
   exact⟨eq,zq,vq,a1,a2,a3,a4⟩
  | succ j=>
   simp only[List.getElem?_cons_succ]at hj ag
   exact(NstL.flat (P:=X.P) (w:=w) (us:=u2) (Jl hfo)) j ad u' hj ag ay
 obtain⟨G1,G2,hG,am⟩:=Qi9 k4 k3 hel hfe ao (off:=off) (by omega)
 have au:=NstL.setA bp k2.1 k3 hel hfe bj (off:=off) (by omega) (by omega)
 rcases k2.2 with ⟨hv,h0⟩|⟨g,cap,cur,hv,hbg,hg,hnc,hcm,hcs,htake⟩
 ·omega
 ·rw[hv]at e3
  simp only[blk,Xak]at e3
  subst e3
  have af:blk z'.val=some g:=by rw[hv];rfl
  have cb:i*f+f<=es.length*f:=by
   have:(i+1)*f<=es.length*f:=XaI _ (by omega)
   rwa [XaU,XbV]at this
  have bu:es.length*f<=cap*f:=XaI _ hnc
  let nc:Array Value:=(splice cur.toList (i*f+off) (a.eval y).cells.toList).toArray
  have a0:(execOp a.eval o).run X.P w=.ok .skip (w.setRow g nc):=by
   have h8:=YM (P:=X.P) (T:=T) (off:=i*f+off) (v:=a.eval y) hg (by rw[ti.sized,<-Xax,av]) (by rw[<-Xax,av,hcs];omega) h7
   simp only[execOp,ho,e6,Sem.run_bind,h8,Result.andThen]
   rfl
  have l:∀b,b≠g->Same w (w.setRow g nc) b:=fun b hb=>setRow_other w g b nc hb
  have a6:z'.nm≠yq.nm:=by rw[e1,ac];exact az
  have ax:∀b∈Fq,b≠g:=fun b hb e=>k.mem.blk_ne d ab a6 af (by rw[<-e];exact ae b hb)
  have bh:∀b∈z'.fs,b≠g:=fun b hb e=>(ai b hb).2.2 (by rw[e];exact af)
  have m:∀b∈G1++Fq++G2,b∈z'.fs\/b∈Fq:=fun b hb=>by
   rw[hG]
   simp only[Xag]at hb ⊢
   rcases hb with (hb|hb)|hb
   ·exact .inl (.inl hb)
   ·exact .inr hb
   ·exact .inl (.inr hb)
  have al:∀b∈G1++Fq++G2,b≠g:=fun b hb=>(m b hb).elim (bh b) (ax b)
  have ak:∀b∈Fq,b∉z'.fs:=fun b hb hb'=>k.mem.hd_ne d ab a6 (.inr ⟨by rw[t];rfl,hb'⟩) (.inl (ae b hb))
  let ad:=es.set i (splice el off (dpre++D.sl esq::dpost))
  let x':Ent:=⟨p,.row e ad true,z'.val,G1++Fq++G2⟩
  have ap:(AO.row e ad true).lens=(AO.row e es true).lens:=QlD hel (Q0 (by omega))
  have hs:QaQ X.P X.w0 X.Z X.O en w (w.setRow g nc) (isPQ p q) [x'] (notN q):=by
   refine⟨k.mem,fun n hn=>?_,fun x hx hd hpx=>⟨x',Xaa,?_⟩,rfl,rfl,rfl,by simp,fun b hb hno=>l b (fun e=>hno z' d (Q8.2 (.inl e1)) (.inl (e▸af))),fun y hy b hb=>?_,fun y hy x hx hd e=>?_,by simp,by simp,fun y hy=>?_⟩
   ·refine Q8.2 (.inr ?_)
    unfold notN at hn
    exact(Qg _ _).1 (by simpa using hn)
   ·have bl:x.nm=p:=(Q8.1 hd).resolve_right fun e=>by rw[e,Zd]at hpx;cases hpx
    have:=k.mem.ent_unique hx d (bl.trans e1.symm)
    subst this
    exact⟨e1.symm,rfl,by rw[t];rfl,by rw[t];exact ap⟩
   ·obtain rfl:y=x':=by simpa using hy
    rcases hb with hb|⟨_,hb⟩
    ·exact .inr ⟨z',d,Q8.2 (.inl e1),.inl hb⟩
    ·rcases m b hb with hb|hb
     ·exact .inr ⟨z',d,Q8.2 (.inl e1),.inr ⟨by rw[t];rfl,hb⟩⟩
     ·exact .inr ⟨yq,ab,Q8.2 (.inr ac),.inl (ae b hb)⟩
   ·obtain rfl:y=x':=by simpa using hy
    rw[Q8.2 (.inl e)]at hd;cases hd
   ·obtain rfl:y=x':=by simpa using hy
    show X.Z.fx p z'.val
    rw[<-e1]
    exact k.mem.fix z' d
  have h9:=k.swap2 hs (fun y hy=>by
   obtain rfl:y=x':=by simpa using hy
   unfold EntOk
   have ar:=QI (w':=w.setRow g nc) (by simp) _ _ _ am (fun b hb=>l b (al b hb))
   refine⟨f,splice us (i*f+off) (a.eval _).cells.toList,k0,k1,?_,fun q hq=>?_,ar,fun h=>Bool.noConfusion h,k6,fun _=>⟨?_,fun b hb=>?_,au.same (Je am) (fun b hb=>l b (al b hb))⟩⟩
   ·have a5:us.length=es.length*f:=k2.1
    have an:i*f+off+(a.eval y).cells.toList.length<=us.length:=by omega
    have bv:cur.toList.length=cap*f:=by rw[Xax];exact hcs
    refine⟨by rw[Q0 an,a5,Xaw],.inr ⟨g,cap,_,by rw[hv,Xaw],Xae _,setRow_heap w g cur nc e _ hg,by rw[Xaw];exact hnc,hcm,?_,?_⟩⟩
    ·simp only[nc,XbG]
     rw[Q0 (by omega),Xax]
     exact hcs
    ·rw[Xaw,<-htake]
     exact ZS (by rw[<-a5];exact an)
   ·rcases Xbr hq with hq|rfl
    ·exact k3 q hq
    ·rw[Q0 (by omega)];exact aw
   ·rw[hG,Xbg]at ah
    show(G1++Fq++G2).Nodup
    rw[Xao,Xbg]
    refine⟨ah.1,?_,fun b hb c hc e=>?_⟩
    ·rw[Xbg]
     exact⟨bc,ah.2.1,fun b hb c hc e=>ak b hb (by rw[hG,e];exact Xav _ hc)⟩
    ·rcases Xag.1 hc with hc|hc
     ·exact ak c hc (by rw[hG,<-e];exact Xat _ hb)
     ·exact ah.2.2 b hb c hc e
   ·rcases m b hb with hb'|hb'
    ·exact⟨(ai b hb').1,by simpa using (ai b hb').2.1,(ai b hb').2.2⟩
    ·have hl:=(k.mem.ok yq ab).lt (ae b hb')
     exact⟨hl.2,by simpa using hl.1,fun e=>ax b hb' (by
      have:blk z'.val=some b:=e
      rw[af]at this
      injection this with this
      exact this.symm)⟩)
  unfold Oper.wp
  rw[a0,Oper.upon_skip,hd]
  exact bi _ _ _ hK ⟨_,h9⟩
end

theorem EntOk.data{P:Program}{Fr:Nat->Prop}{w:World}{en:List Ent}{I:Nat->Prop}{y:Ent}{e:TypeId}{es:List (List D)}{dp:Bool}(hok:EntOk P Fr w en I y)(hya:y.ao=.row e es dp):∃F,(D.sl es).rep w y.val F/\∀b∈F,(b∈y.fs\/blk y.val=some b):=by
 have i:=fun b hb=>(hok.lt (b:=b) hb).1
 unfold EntOk at hok
 rw[hya]at hok
 obtain⟨z,q,k0,k1,f,o,p,k5,k6,k7⟩:=hok
 obtain⟨A,c,a,k,l,m,r⟩:=JK f
 by_cases h:es=[]
 ·subst h
  exact⟨[],⟨A,c,z,q,y.fs,a,k,l,m,o,p,.inl ⟨rfl,rfl⟩⟩,by simp⟩
 ·have d:0<es.length:=Xbd.2 h
  obtain⟨g,s⟩:=r d
  subst s
  refine⟨g::y.fs,⟨_,c,z,q,y.fs,a,k,l,m,o,p,.inr ⟨h,g,0,rfl,i g (by rw[a];rfl),rfl,fun j v hj=>?_⟩⟩,fun b hb=>?_⟩
  ·rw[a]at f
   have n:=(List.getElem?_eq_some_iff.1 hj).1
   rw[f.1]at n
   rw[XaZ,f.cellAt j n]
   exact hj
  ·rcases Xai.1 hb with rfl|hb
   ·exact .inr (by rw[a];rfl)
   ·exact .inl hb
theorem Qeo{w:World}{es:List (List D)}{u:Value}{F:List Nat}(h:(D.sl es).rep w u F)(hne:es≠[])(hfl:Wg es=true):∃b,blk u=some b/\F=[b]:=by
 obtain⟨A,c,z,us,F',rfl,_,_,_,_,d,a⟩:=h
 rcases a with ⟨a,_⟩|⟨_,b,o,rfl,_,rfl,_⟩
 ·exact absurd a hne
 ·rw[YE d (Yt hfl)]
  exact⟨b,rfl,rfl⟩
theorem QiP{α:Type}{l:List α}{i:Nat}{x:α}(h:l[i]?=some x):l.set i x=l:=by
 refine List.ext_getElem? fun k=>?_
 rw[List.getElem?_set]
 split
 ·rename_i a
  subst a
  rw[if_pos (List.getElem?_eq_some_iff.1 h).1,h]
 ·rfl
theorem WO{α:Type}{z:Nat}:∀{es:List (List α)} {i off:Nat} {el:List α} {d:α},(∀e∈es,e.length=z)->es[i]?=some el->off<z->(es.set i (el.set off d)).flatten=es.flatten.set (i*z+off) d
 | [],i,off,el,d,_,hi,_=>by simp at hi
 | e::es,i,off,el,d,hz,hi,ho=>by
  have he:=hz e Xaa
  cases i with
  | zero=>
   simp only[List.getElem?_cons_zero,Xak]at hi
   subst hi
   rw[Xbx,XbM,XbM,Xbo,XaZ,List.set_append_left _ _ (by omega)]
  | succ i=>
   simp only[List.getElem?_cons_succ]at hi
   rw[Xb2,XbM,XbM,WO (fun x hx=>hz x (Xad _ hx)) hi ho,XbA _ _ (by rw[he,XaU];omega)]
   congr 2
   rw[he,XaU];omega
theorem J2.fresh{X:Cx}{σ:AS}{a:Act}{w:World}{en:List Ent}(h:J2 X σ a w en){p:Nat}{ao:AO}(hp:Ql σ.ob p=some ao):Rel X ⟨σ.nt,σ.sl,(p,ao)::Ym (isPQ p p) (fun _=>true) σ.ob⟩ a w:=by
 obtain⟨y,hy,i,g⟩:=h.ent hp
 refine⟨en,h.mem,?_,h.defers,h.size,h.slots⟩
 have f:Ym (isPQ p p) (fun _=>true) σ.ob=σ.ob.filter fun y=>!isPQ p p y.1:=by
  unfold Ym
  have:(fun(y:Nat×AO)=>(y.1,y.2.cut fun _=>true))=id:=by funext y;simp[AO.cut_true]
  rw[this,XcN]
 rw[f]
 refine h.ob.trans ?_
 have c:(σ.ob.map Prod.fst).Nodup:=by
  have:=h.mem.names
  have e:en.map Ent.nm=(en.map Ent.key).map Prod.fst:=by simp only[XaR];rfl
  rw[e]at this
  exact(h.ob.map _).nodup_iff.1 this
 have b:=Jz hp
 refine(Xb8 (Wj c) ?_).2 fun q=>?_
 ·rw[XaQ]
  refine⟨fun hm=>?_,(Wj c).filter _⟩
  rw[XaB]at hm
  have:isPQ p p p=true:=Q8.2 (.inl rfl)
  simp[this]at hm
 ·rw[Xai,XaB]
  constructor
  ·intro d
   by_cases e:q.1=p
   ·exact .inl (Qae c d b e)
   ·refine .inr ⟨d,?_⟩
    cases hb:isPQ p p q.1 with
    | false=>rfl
    | true=>exact absurd ((Q8.1 hb).elim id id) e
  ·rintro (rfl|⟨d,_⟩)
   ·exact b
   ·exact d
section
variable {X:Cx} {σ:AS} {Q:Exit->AS->Prop}
theorem QhU{ops:Array Oper}{l:List Oper}{o1 om o2:Oper}{T:TypeId}{x y:Operand}{t1 tm t2 p i off z1:Nat}{e:TypeId}{f:FuncId}{es es1 es2:List (List D)}{el:List D}{ats:Array TypeId}{kv kr:Int}[ti:TI X.P T]
  (hg1:o1.guard=none) (ho1:o1.op=.load T x) (hd1:o1.dst=some t1) (ha:J5 ti.desc=false) (hx:σ.ev x=.pr p i off) (hp:Ql σ.ob p=some (.row e es true)) (hel:es[i]?=some el) (hnst:el[off]?=some (.sl es1)) (ht1:Nat.blt t1 σ.nt=true)
  (hgm:om.guard=none) (hom:om.op=.move y) (hdm:om.dst=some tm) (hy:σ.ev y=.d (.n .i64 kv)) (hyt:(∀k,y=.tmp k->Nat.beq k t1=false)) (htm:Nat.blt tm σ.nt=true) (hne1:Nat.beq t1 tm=false)
  (hg2:o2.guard=none) (ho2:o2.op=.call { callee:=.value (.func f),args:=#[.tmp t1,.tmp tm],argTypes:=ats }) (hd2:o2.dst=some t2) (ht2:Nat.blt t2 σ.nt=true)
  (hz1:∀q∈es1,q.length=z1) (hf1:Wg es1=true) (hf2:Wg es2=true) (hlen:es2.length=es1.length)
  (hc:es1≠[]->∀e',(X.P.info? e').map (·.size)=some z1->MCalls X.P f [.row 1000000,.d (.n .i64 kv)] [(1000000,.row e' es1 true)] (fun _:Unit=>True) (fun _=>[.d (.n .i64 kr)]) (fun _=>[(1000000,.row e' es2 true)]) (fun _=>[]))
  (hc0:es1=[]->ACalls X.P f [.d (.sl []),.d (.n .i64 kv)] [.d (.n .i64 kr)] [])
  (hK:QM X ops l Q ⟨σ.nt,(t2,.d (.n .i64 kr))::(tm,.d (.n .i64 kv))::(t1,.any)::σ.sl,(p,.row e (es.set i (el.set off (.sl es2))) true)::Ym (isPQ p p) (fun _=>true) σ.ob⟩):QM X ops (o1::om::o2::l) Q σ:=by
 intro a w hr
 obtain⟨en,h1⟩:=hr
 obtain⟨zp,hz,cl,ag⟩:=h1.ent hp
 have a8:=h1.mem.ok zp hz
 unfold EntOk at a8
 rw[ag]at a8
 obtain⟨s,us,k0,k1,k2,k3,k4,k5,k6,k7⟩:=a8
 obtain⟨co,be,bu⟩:=k7 rfl
 obtain⟨z',ad,e1,e2,g',s',e3,e4,e5,e6⟩:=QT h1 hx
 have:=h1.mem.ent_unique ad hz (e1.trans cl.symm)
 subst this
 rw[ag]at e4 e5
 have ak:el.length=s:=k3 el (List.mem_of_getElem? hel)
 have cg:s'=s:=by
  have:=e4 el.length (Xaf.2 ⟨el,List.mem_of_getElem? hel,rfl⟩)
  rw[<-this,ak]
 subst cg
 have z:off<s':=by rw[<-ak];exact(List.getElem?_eq_some_iff.1 hnst).1
 have bm:i<es.length:=(List.getElem?_eq_some_iff.1 hel).1
 obtain⟨u,G,F1,F2,ax,aa,hF,aj⟩:=QeT k4 k3 hel hnst
 obtain⟨A,c,q1,q2,q3,q4,q5⟩:=JK k2
 obtain⟨g0,q6⟩:=q5 (by omega)
 have a3:w.cell? ⟨g',i*s'+off,none⟩=some u:=by
  rw[q1,q6]at e3 k2
  simp only[blk,Xak]at e3
  subst e3
  rw[k2.cellAt _ (by have:=(List.getElem?_eq_some_iff.1 ax).1;rwa [k2.1]at this)]
  exact ax
 have ba:(execOp a.eval o1).run X.P w=.ok (.value u) w:=by
  have ca:(isAgg T).run X.P w=.ok false w:=by
   unfold isAgg
   rw[Sem.run_bind,run_underlying ti.und w]
   cases dh:ti.desc <;> simp_all[J5,Sem.run_pure]
  simp only[execOp,ho1,e6,Instr.loadAt,Instr.sureAddr,loadVar,Sem.run_bind,Sem.run_pure,Result.andThen_ok,ca,XaT,if_false,run_load]
  rw[a3]
  rfl
 have ch:u.oneCell'=true:=D.rep_one aa
 refine wpList_plain hg1 fun K hKK=>?_
 unfold Oper.wp
 rw[ba,Oper.upon_value,hd1]
 refine hKK _ _ ?_
 have al:t1≠tm:=fun e=>by rw[(Qg t1 tm).2 e]at hne1;cases hne1
 have bn:t1<a.tmps.size:=by rw[h1.size];exact Jp ht1
 have bo:tm<a.tmps.size:=by rw[h1.size];exact Jp htm
 have cj:(a.put (some t1) u).eval y=.int .i64 kv:=by
  obtain⟨F,⟨h3,_⟩,_⟩:=QT h1 hy
  cases y with
  | tmp k=>
   have hk:k≠t1:=fun e=>by have:=hyt k rfl;rw[(Qg k t1).2 e]at this;cases this
   rw[<-h3]
   simp only[Act.put,Act.eval,Array.getD_eq_getD_getElem?,Array.getElem?_setIfInBounds_ne (Ne.symm hk)]
  | _=>exact h3
 refine wpList_plain hgm fun K1 hKK1=>?_
 unfold Oper.wp
 have bb:(execOp (a.put (some t1) u).eval om).run X.P w=.ok (.value (.int .i64 kv)) w:=by
  simp only[execOp,hom,cj];rfl
 rw[bb,Oper.upon_value,hdm]
 refine hKK1 _ _ ?_
 have a4:((a.put (some t1) u).put (some tm) (.int .i64 kv)).eval (.tmp t1)=u:=by
  simp[Act.put,Act.eval,bn,al.symm]
 have av:((a.put (some t1) u).put (some tm) (.int .i64 kv)).eval (.tmp tm)=.int .i64 kv:=by
  simp[Act.put,Act.eval,bo]
 by_cases g:es1=[]
 ·subst g
  have cc:es2=[]:=Xaz (by simpa using hlen)
  subst cc
  have hG:G=[]:=by
   obtain⟨_,_,_,_,_,_,_,_,_,_,_,g7⟩:=aa
   rcases g7 with ⟨_,g7⟩|⟨g7,_⟩
   ·exact g7
   ·exact absurd rfl g7
  have h2:=(h1.put (v:=.d (.sl [])) ⟨G,aa,by rw[hG];simp⟩ ht1).put (t:=tm) (v:=.d (.n .i64 kv)) (u:=.int .i64 kv) ⟨[],⟨rfl,rfl⟩,by simp⟩ htm
  have bc:=Qrb (K:=QM X ops l Q) (σ:=(σ.put t1 (.d (.sl []))).put tm (.d (.n .i64 kv))) (hc0 rfl) ho2 hd2 (by
   have e1:((σ.put t1 (.d (.sl []))).put tm (.d (.n .i64 kv))).ev (.tmp t1)=.d (.sl []):=by
    simp only[AS.ev,AS.put,QQ,if_neg al.symm,if_pos trivial]
   have e2:((σ.put t1 (.d (.sl []))).put tm (.d (.n .i64 kv))).ev (.tmp tm)=.d (.n .i64 kv):=by
    simp only[AS.ev,AS.put,QQ,if_pos trivial]
   simp only[AS.snaps,e1,e2,Qop,snap1]) rfl ht2 (by
   intro a' w' ac
   obtain⟨b4,ac⟩:=ac
   have br:es.set i (el.set off (D.sl []))=es:=by
    rw[QiP hnst,QiP hel]
   rw[br]at hK
   refine hK a' w' ?_
   have h3:J2 X ⟨σ.nt,(t2,.d (.n .i64 kr))::(tm,.d (.n .i64 kv))::(t1,.any)::σ.sl,σ.ob⟩ a' w' b4:=by
    refine⟨ac.mem,ac.ob,ac.defers,ac.size,fun t=>?_⟩
    have:=ac.slots t
    simp only[one,AV.shift,AS.put,QQ]at this ⊢
    split
    ·rename_i e;rw[if_pos e]at this;exact this
    ·rename_i e
     rw[if_neg e]at this
     split
     ·rename_i e';rw[if_pos e']at this;exact this
     ·rename_i e'
      rw[if_neg e']at this
      split
      ·trivial
      ·rename_i b2;rw[if_neg b2]at this;exact this
   exact h3.fresh hp)
  exact Qg5 hg2 bc _ _ ⟨en,h2⟩
 ·have h2:=(h1.put (v:=.any) (u:=u) trivial ht1).put (t:=tm) (v:=.d (.n .i64 kv)) (u:=.int .i64 kv) ⟨[],⟨rfl,rfl⟩,by simp⟩ htm
  obtain⟨b0,bl,hG⟩:=Qeo aa g hf1
  subst hG
  have cd:es.flatten[i*s'+off]?=some (D.sl es1):=by
   rw[Qfb k1 k3]
   have e1:(i*s'+off) / s'=i:=by
    rw[Xcn,Nat.mul_add_div k1,Xcr z,XbK]
   have e2:(i*s'+off) % s'=off:=by
    rw[Xcn,Nat.mul_add_mod,Xcs z]
   rw[e1,e2,hel]
   exact hnst
  obtain⟨ai,zn,vs,n1,n2,n3,n4⟩:=bu _ _ _ cd ax g
  have cm:zn=z1:=by
   cases es1 with
   | nil=>exact absurd rfl g
   | cons d0 l=>rw[<-n3 d0 Xaa,hz1 d0 Xaa]
  subst cm
  let q:Ent:=⟨1000000,.row ai es1 true,u,[]⟩
  have bs:repE w es1 vs []:=by
   obtain⟨A1,c1,z2,bw,F',r1,r2,r3,r4,r5,r6,r7⟩:=aa
   rcases r7 with ⟨r7,_⟩|⟨_,b,o,rA,r8,r9,r10⟩
   ·exact absurd r7 g
   ·have b6:F'=[]:=by injection r9 with _ r9;exact r9.symm
    subst b6
    have ck:z2=zn:=by
     cases es1 with
     | nil=>exact absurd rfl g
     | cons d0 l=>rw[<-n3 d0 Xaa,r5 d0 Xaa]
    subst ck
    obtain⟨A3,c3,m1,m2,m3,m4,m5⟩:=JK n4
    obtain⟨g3,m6⟩:=m5 (Xbd.2 g)
    rw[r1,rA]at m1
    injection m1 with m1 _ m7
    rw[m6]at m1
    injection m1 with m1
    injection m1 with m1 m8
    have:bw=vs:=by
     refine List.ext_getElem? fun j=>?_
     by_cases r:j<es1.length*z2
     ·have h3:j<bw.length:=by rw[Jh r6 r5];exact r
      have h4:=r10 j _ (List.getElem?_eq_getElem h3)
      rw[r1,rA,m8]at n4
      have n5:=n4
      rw[m1]at n5
      rw[List.getElem?_eq_getElem h3,<-h4,m1,m8,XaZ]
      exact(World.ownsRow.cellAt n5 j r)
     ·rw[List.getElem?_eq_none (by rw[Jh r6 r5];omega),List.getElem?_eq_none (by rw[n4.1];omega)]
    rw[<-this];exact r6
  have bj:∀b,OH [q] b->b=b0:=fun b ⟨x,hx,hb⟩=>by
   obtain rfl:x=q:=by simpa using hx
   rcases hb with hb|⟨_,hb⟩
   ·have:blk u=some b:=hb
    rw[bl]at this
    injection this with this
    exact this.symm
   ·cases hb
  have hm:Mem X.P w (ZH (IM X en w) [q]) (OH [q]) [q] w:=by
   refine⟨rfl,rfl,rfl,Xaj _,fun _ _ _=>rfl,by simp,by simp,fun y hy=>?_,by simp,fun y hy _ x hx e=>?_⟩
   ·obtain rfl:y=q:=by simpa using hy
    unfold EntOk
    exact⟨zn,vs,n1,n2,n4,n3,bs,fun h=>Bool.noConfusion h,fun b hb=>.inl ⟨q,List.mem_cons_self,.inl hb⟩,fun _=>⟨by simp[q],by simp[q],NstL.nilE bs⟩⟩
   ·obtain rfl:y=q:=by simpa using hy
    obtain rfl:x=q:=by simpa using hx
    rfl
  obtain⟨c1,c2⟩:=(hc g ai n1).2 w (IM X en w) [q] [u,.int .i64 kv] hm rfl ⟨u,[.int .i64 kv],rfl,⟨q,Xaa,rfl,rfl,rfl⟩,⟨_,[],rfl,⟨[],⟨rfl,rfl⟩,by simp⟩,rfl⟩⟩
  refine wpList_plain hg2 fun K2 hKK2=>?_
  unfold Oper.wp
  rw[Wq ho2]
  simp only[Xas,Xbj,a4,av]
  rw[c1,Oper.upon_enter]
  refine c2.mono fun e w' ⟨_,v,er,_,he,m,hk,hr⟩=>?_
  subst he
  rw[hd2]
  refine hKK2 _ _ ?_
  obtain⟨yq,rfl⟩:∃yq,er=[yq]:=by
   have:=hk.length_eq
   cases er with
   | nil=>simp at this
   | cons y l=>
    cases l with
    | nil=>exact⟨y,rfl⟩
    | cons y2 l=>simp at this
  have az:yq.key=(1000000,.row ai es2 true):=by
   have:=hk.mem_iff.1 (Xaa:yq.key∈[yq].map Ent.key)
   simpa using this
  have a1:yq.nm=1000000:=congrArg Prod.fst az
  have a0:yq.ao=.row ai es2 true:=congrArg Prod.snd az
  have am:yq.val=u:=m.fix yq Xaa (by rw[a1];rfl) q Xaa a1.symm
  have hv:v=.int .i64 kr:=by
   obtain⟨F,⟨h3,_⟩,_⟩:=hr
   exact h3
  subst hv
  have ae:=m.ok yq Xaa
  obtain⟨G',a2,df⟩:=ae.data a0
  have bp:es2≠[]:=fun e=>g (Xaz (by rw[<-hlen,e];rfl))
  obtain⟨b1,au,b8⟩:=Qeo a2 bp hf2
  subst b8
  have cb:b1=b0:=by rw[am,bl]at au;injection au with au;exact au.symm
  subst cb
  rw[am]at a2
  unfold EntOk at ae
  rw[a0]at ae
  obtain⟨zy,uy,y0,y1,y2,y3,y4,y5,y6,y7⟩:=ae
  rw[am]at y2
  have aw:(F1++[b1]++F2).Nodup:=by rw[<-hF];exact co
  have ce:b1∉F1++F2:=fun hb=>by
   rw[Xao,Xbg]at aw
   rcases Xag.1 hb with hb|hb
   ·exact aw.2.2 b1 hb b1 (by simp) rfl
   ·have:=aw.2.1
    simp only[XbB,XaQ]at this
    exact this.1 hb
  have a5:∀b∈F1++F2,b∈z'.fs:=fun b hb=>by
   rw[hF]
   rcases List.mem_append.1 hb with hb|hb <;> simp[hb]
  have ay:b1∈z'.fs:=by rw[hF];simp
  have ab:∀b,b<w.heap.size->b≠b1->Same w w' b:=fun b hb g=>m.old b hb fun hO=>g (bj b hO)
  have bk:∀b∈F1++F2,Same w w' b:=fun b hb=>ab b (be b (a5 b hb)).2.1 (fun e=>ce (e▸hb))
  have ci:=aj w .un [] (Xaj _) (fun _ _=>rfl) ⟨ch,rfl⟩
  let es':=es.set i (el.set off (D.sl es2))
  let x':Ent:=⟨p,.row e es' true,z'.val,F1++[b1]++F2⟩
  have a7:(AO.row e es' true).lens=(AO.row e es true).lens:=by
   simp only[AO.lens,es',XbL,Xaw]
   refine List.ext_getElem? fun k=>?_
   rw[List.getElem?_set]
   split
   ·rename_i hk
    subst hk
    rw[List.getElem?_map,hel]
    simp[bm]
   ·rfl
  have hs:QaQ X.P X.w0 X.Z X.O en w w' (isPQ p p) [x'] (fun _=>true):=by
   refine⟨h1.mem,fun n hn=>Bool.noConfusion hn,fun x hx hd hpx=>⟨x',Xaa,?_⟩,m.os,m.tape,m.output,m.size,fun b hb hno=>ab b hb (fun e=>hno z' ad (Q8.2 (.inl e1)) (.inr ⟨by rw[ag];rfl,e▸ay⟩)),fun y hy b hb=>?_,fun y hy x hx hd e=>?_,by simp,by simp,fun y hy=>?_⟩
   ·have:=h1.mem.ent_unique hx ad (((Q8.1 hd).elim id id).trans e1.symm)
    subst this
    exact⟨e1.symm,rfl,by rw[ag];rfl,by rw[ag];exact a7⟩
   ·obtain rfl:y=x':=by simpa using hy
    rcases hb with hb|⟨_,hb⟩
    ·exact .inr ⟨z',ad,Q8.2 (.inl e1),.inl hb⟩
    ·exact .inr ⟨z',ad,Q8.2 (.inl e1),.inr ⟨by rw[ag];rfl,by rw[hF];exact hb⟩⟩
   ·obtain rfl:y=x':=by simpa using hy
    rw[Q8.2 (.inl e)]at hd;cases hd
   ·obtain rfl:y=x':=by simpa using hy
    show X.Z.fx p z'.val
    rw[<-e1]
    exact h1.mem.fix z' ad
  have bq:w'.ownsRow 0 e s' z'.val es.length us:=Qhj k2 (fun b hb=>ab b ((h1.mem.ok z' ad).lt hb).1 (fun e=>(be b1 ay).2.2 (e▸hb)))
  have a9:=aj w' (.sl es2) [b1] m.size bk a2
  have h9:=h2.swap2 hs (fun y hy=>by
   obtain rfl:y=x':=by simpa using hy
   unfold EntOk
   refine⟨s',us,k0,k1,by rw[Xaw];exact bq,fun q hq=>?_,a9,fun h=>Bool.noConfusion h,k6,fun _=>⟨aw,fun b hb=>?_,fun j q u' r hu' hqne=>?_⟩⟩
   ·rcases Xbr hq with hq|rfl
    ·exact k3 q hq
    ·rw[Xaw];exact ak
   ·have:=be b (by rw[hF];exact hb)
    exact⟨this.1,XaO this.2.1 m.size,this.2.2⟩
   ·rw[WO k3 hel z,List.getElem?_set]at r
    split at r
    ·rename_i a6
     subst a6
     split at r
     ·simp only[Xak,D.sl.injEq]at r
      subst r
      rw[ax]at hu'
      injection hu' with hu'
      subst hu'
      exact⟨ai,zy,uy,y0,y1,y3,y2⟩
     ·cases r
    ·rename_i a6
     have hN:NstL X.P w (es.set i (el.set off D.un)).flatten us:=fun j q u r hu hq=>by
      rw[WO k3 hel z,List.getElem?_set]at r
      split at r
      ·split at r
       ·simp at r
       ·cases r
      ·exact bu j q u r hu hq
     have b9:=hN.same (w':=w') (Je ci) (fun b hb=>bk b (by simpa using hb))
     refine b9 j q u' ?_ hu' hqne
     rw[WO k3 hel z,List.getElem?_set,if_neg a6]
     exact r)
  have bh:=h9.put (t:=t2) (v:=.d (.n .i64 kr)) (u:=.int .i64 kr) ⟨[],⟨rfl,rfl⟩,by simp⟩ ht2
  simp only[AS.put,Qa7]at bh
  exact hK _ _ ⟨_,bh⟩
end

theorem QmH{w:World}:∀{ds:List D} {us:List Value} {F:List Nat} {k:Nat} {d:D},repL w ds us F->ds[k]?=some d->d.flat1=true->∀{d':D} {u':Value},D.rep w d' u' []->repL w (ds.set k d') (us.set k u') F
 | [],_,_,k,d,_,hk,_,_,_,_=>by simp at hk
 | d0::ds,us,F,k,d,h,hk,hf,d',u',hd=>by
  obtain⟨u,us',F1,F2,rfl,rfl,h1,h2⟩:=h
  cases k with
  | zero=>
   simp only[List.getElem?_cons_zero,Xak]at hk
   subst hk
   have:F1=[]:=D.flat_fs h1 (by cases d0 <;> first|rfl|cases hf)
   subst this
   exact⟨u',us',[],F2,rfl,rfl,hd,h2⟩
  | succ k=>exact⟨u,us'.set k u',F1,F2,rfl,rfl,h1,QmH h2 (k:=k) (by simpa using hk) hf hd⟩
theorem QmA{w:World}{z:Nat}:∀{es:List (List D)} {us:List Value} {F:List Nat} {i k:Nat} {el:List D} {d:D},repE w es us F->(∀e∈es,e.length=z)->es[i]?=some el->el[k]?=some d->d.flat1=true->∀{d':D} {u':Value},D.rep w d' u' []->
  repE w (es.set i (el.set k d')) (us.set (i*z+k) u') F
 | [],_,_,i,k,el,d,_,_,hi,_,_,_,_,_=>by simp at hi
 | e::es,us,F,i,k,el,d,h,hz,hi,hk,hf,d',u',hd=>by
  obtain⟨u1,u2,F1,F2,rfl,rfl,h1,h2⟩:=h
  have hl1:u1.length=z:=by rw[Qy h1];exact hz e Xaa
  cases i with
  | zero=>
   simp only[List.getElem?_cons_zero,Xak]at hi
   subst hi
   have hkl:k<u1.length:=by rw[Qy h1];exact(List.getElem?_eq_some_iff.1 hk).1
   rw[Xbx,Xbo,XaZ,List.set_append_left _ _ hkl]
   exact⟨u1.set k u',u2,F1,F2,rfl,rfl,QmH h1 hk hf hd,h2⟩
  | succ i=>
   simp only[List.getElem?_cons_succ]at hi
   have e1:(i+1)*z+k=u1.length+(i*z+k):=by rw[hl1,XaU];omega
   rw[Xb2,e1,XbA _ _ (by omega),Nat.add_sub_cancel_left]
   exact⟨u1,_,F1,F2,rfl,rfl,h1,QmA h2 (fun x hx=>hz x (Xad _ hx)) hi hk hf hd⟩
theorem Qno{α:Type}{l:List α}{k:Nat}{x:α}(h:k<l.length):splice l k [x]=l.set k x:=by
 unfold splice
 refine List.ext_getElem? fun j=>?_
 simp only[XaF,List.getElem?_append,List.getElem?_take,List.getElem?_drop,List.getElem?_set,Xab,Xah]
 repeat' split
 all_goals first|rfl|omega|skip
 all_goals first|(subst_vars;rw[List.getElem?_eq_getElem (by simpa using h)];done)|(rename_i h1 h2 h3;rw[show j-min k l.length=0 by omega];rfl)|(congr 1;omega)
section
variable {X:Cx} {σ:AS} {o:Oper} {K:AS->Prop} {t:Nat}
theorem WY{T e:TypeId}{x y:Operand}{p i off n:Nat}{es:List (List D)}{dp:Bool}{el:List D}{d0 d:D}[ti:TI X.P T](ho:o.op=.store T x y)(hd:o.dst=none)(hx:σ.ev x=.pr p i off)(hp:Ql σ.ob p=some (.row e es dp))(hy:σ.ev y=.d d)
  (hn:es.length=n) (hlt:i<n) (hel:es[i]?=some el) (h0:el[off]?=some d0) (hf0:d0.flat1=true) (hfd:d.flat1=true) (hl:Nat.beq ti.size 1=true)
  (hK:K ⟨σ.nt,σ.sl,(p,.row e (es.set i (el.set off d)) dp)::YT p σ.ob⟩):OpOk X o σ K:=by
 have ab:ti.size=1:=(Qg _ _).1 hl
 refine Qqs (ao':=.row e (es.set i (el.set off d)) dp) hp hd rfl ?_ rfl (fun a w en z h1 hz hzn hza hok=>?_) hK
 ·simp only[AO.lens,XbL,Xaw]
  refine List.ext_getElem? fun k=>?_
  rw[List.getElem?_set]
  split
  ·rename_i hk
   subst hk
   split
   ·rw[List.getElem?_map,hel];rfl
   ·rename_i hk
    rw[List.getElem?_eq_none (by simpa using hk)]
  ·rfl
 ·unfold EntOk at hok
  rw[hza]at hok
  obtain⟨s,us,k0,k1,k2,k3,k4,k5,k6,r⟩:=hok
  obtain⟨z',ac,e1,e2,g',f,e3,e4,e5,e6⟩:=QT h1 hx
  have:=h1.mem.ent_unique ac hz (e1.trans hzn.symm)
  subst this
  rw[hza]at e4 e5
  have h:el.length=s:=k3 el (List.mem_of_getElem? hel)
  have ai:f=s:=by
   have:=e4 el.length (Xaf.2 ⟨el,List.mem_of_getElem? hel,rfl⟩)
   rw[<-this,h]
  subst ai
  have aa:off<f:=by rw[<-h];exact(List.getElem?_eq_some_iff.1 h0).1
  obtain⟨F,g1,g2⟩:=QT h1 hy
  have hF:F=[]:=D.flat_fs g1 (by cases d <;> first|rfl|cases hfd)
  subst hF
  have l:=D.rep_one g1
  have c:(a.eval y).cells=#[a.eval y]:=QiY l
  rcases k2.2 with ⟨hv,h0'⟩|⟨g,cap,cur,hv,hbg,hg,hnc,hcm,hcs,htake⟩
  ·omega
  ·rw[hv]at e3
   simp only[blk,Xak]at e3
   subst e3
   have ay:i*f+f<=es.length*f:=by
    have:(i+1)*f<=es.length*f:=XaI _ (by omega)
    rwa [XaU,XbV]at this
   have an:es.length*f<=cap*f:=XaI _ hnc
   have aj:us.length=es.length*f:=k2.1
   refine⟨g,(splice cur.toList (i*f+off) [a.eval y]).toArray,by rw[hv];rfl,?_,fun hT hIS=>?_⟩
   ·have h8:=YM (P:=X.P) (T:=T) (off:=i*f+off) (v:=a.eval y) hg (by rw[ti.sized,c,ab];rfl) (by rw[c,hcs];simp;omega) (by rw[c];simpa using l)
    rw[c]at h8
    simp only[execOp,ho,e6,Sem.run_bind,h8,Result.andThen]
    rfl
   ·have t:∀cr:Array Value,∀b∈z'.fs,Same w (w.setRow g cr) b:=fun cr b hb=>by
     cases dp with
     | false=>exact setRow_other w g b cr (fun e=>(k5 rfl b hb).2.2 z' ac (.inl (by rw[hv,<-e];rfl)))
     | true=>exact setRow_other w g b cr (fun e=>((r rfl).2.1 b hb).2.2 (by rw[hv,<-e];rfl))
    have m:=QmA k4 k3 hel h0 hf0 g1
    unfold EntOk
    refine⟨f,us.set (i*f+off) (a.eval y),k0,k1,?_,fun q hq=>?_,QI (by simp) _ _ _ m (t _),fun hd b hb=>(hIS b (k5 hd b hb)).1,k6,fun hd=>⟨(r hd).1,fun b hb=>⟨((r hd).2.1 b hb).1,by simpa using ((r hd).2.1 b hb).2.1,((r hd).2.1 b hb).2.2⟩,?_⟩⟩
    ·have ao:cur.toList.length=cap*f:=by rw[Xax];exact hcs
     refine⟨by rw[Xaw,aj,Xaw],.inr ⟨g,cap,_,by rw[hv,Xaw],Xae _,setRow_heap w g cur _ e _ hg,by rw[Xaw];exact hnc,hcm,?_,?_⟩⟩
     ·simp only[XbG]
      rw[Q0 (by simp;omega),Xax]
      exact hcs
     ·rw[Xaw,<-htake]
      show(splice cur.toList (i*f+off) [a.eval y]).take (es.length*f)=_
      rw[ZS (by simp;omega),Qno (by rw[htake];omega)]
    ·rcases Xbr hq with hq|rfl
     ·exact k3 q hq
     ·rw[Xaw];exact h
    ·have hN:NstL X.P w (es.set i (el.set off d)).flatten (us.set (i*f+off) (a.eval y)):=fun j q u hj hu hne=>by
      rw[WO k3 hel aa,List.getElem?_set]at hj
      rw[List.getElem?_set]at hu
      split at hj
      ·split at hj
       ·simp only[Xak]at hj
        rw[hj]at hfd
        cases hfd
       ·cases hj
      ·rename_i ag
       rw[if_neg ag]at hu
       exact(r hd).2.2 j q u hj hu hne
     exact hN.same (Je m) (t _)
theorem Vv{T e:TypeId}{x y:Operand}{p i off n:Nat}{es:List (List D)}{dp:Bool}{el:List D}{d0 d:D}[ti:TI X.P T](ho:o.op=.store T x y)(hd:o.dst=none)(hx:σ.ev x=.pr p i off)(hp:Ql σ.ob p=some (.row e (es.set i el) dp))(hy:σ.ev y=.d d)
  (hn:es.length=n) (hlt:i<n) (h0:el[off]?=some d0) (hf0:d0.flat1=true) (hfd:d.flat1=true) (hl:Nat.beq ti.size 1=true)
  (hK:K ⟨σ.nt,σ.sl,(p,.row e (es.set i (el.set off d)) dp)::YT p σ.ob⟩):OpOk X o σ K:=
 WY ho hd hx hp hy (by rw[Xaw];exact hn) hlt (List.getElem?_set_self (by omega)) h0 hf0 hfd hl (by rw[List.set_set];exact hK)
theorem QsH{T e:TypeId}{x y:Operand}{p j n:Nat}{er:TypeId}{es:List (List D)}{dp:Bool}{i:Int}[te:TI X.P e](ho:o.op=.indexAddr T x y)(hd:o.dst=some t)(hT:JD X T=some e)(hx:σ.ev x=.row p)(hp:Ql σ.ob p=some (.row er es dp))(hsz:(X.P.info? er).map (·.size)=some te.size)(hy:σ.ev y=.d (.n .i64 i))
  (hi:i=(j:Int)) (hn:es.length=n) (hlt:j<n) (ht:Nat.blt t σ.nt=true) (hK:K (σ.put t (.pr p j 0))):QOk X o σ K:=
 Jm hd ht (fun a w en h=>by
  subst hi
  obtain⟨z,hz,m,k⟩:=h.ent hp
  obtain⟨z',ac,e1,e2,e3⟩:=QT h hx
  have:=h.mem.ent_unique ac hz (e1.trans m.symm)
  subst this
  obtain⟨G,⟨ey,_⟩,_⟩:=QT h hy
  have f:=h.mem.ok z' hz
  unfold EntOk at f
  rw[k]at f
  obtain⟨s,us,r,k2,k3,k4,k5,_⟩:=f
  obtain⟨A,c,g1,g2,g3,g4,g5⟩:=JK k3
  obtain⟨g,g6⟩:=g5 (by omega)
  have hu:=QO hT
  have b:j<es.length:=by omega
  have hs:s=te.size:=by rw[hsz]at r;injection r with r;exact r.symm
  subst hs
  refine⟨.pointer (some ⟨g,j*te.size,none⟩),fun w' _=>?_,z',hz,m,e2,g,te.size,by rw[g1,g6];rfl,?_,by rw[k];simpa [AO.lens] using b,by simp⟩
  ·obtain⟨q,u,_,v,_⟩:=te.parts
   rw[g1,g6]at e3
   have hj:(0:Int)<=(j:Int)/\(j:Int)<(es.length:Int):=by omega
   simp[execOp,ho,e3,ey,Instr.indexAt,asIntOf,run_underlying hu,hj,b,sizeOf,typeInfo,u,v,Sem.run_pure,Yl]
  ·rw[k]
   intro l hl
   obtain⟨el,aa,rfl⟩:=Xaf.1 hl
   exact k4 el aa) hK
end

theorem QbI{z:Nat}:∀{n:Nat} {ds:List D},ds.length=n*z->(chunk z n ds).flatten=ds
 | 0,ds,h=>by
  have:ds=[]:=Xaz (by simpa using h)
  subst this
  rfl
 | n+1,ds,h=>by
  rw[XaU,XbV]at h
  rw[chunk,XbM,QbI (by simp;omega),XaK]
def Qhl(p q:Nat):Nat->Bool:=fun n=>!isPQ p q n
theorem Qws{p q n:Nat}(h:Qhl p q n=false):isPQ p q n=true:=by unfold Qhl at h;simpa using h
section
variable {X:Cx} {σ:AS} {o:Oper} {K:AS->Prop} {t:Nat}
theorem J2.addNil{a:Act}{w:World}{en:List Ent}(h:J2 X σ a w en)(n:Nat){e:TypeId}{z:Nat}(hi:(X.P.info? e).map (·.size)=some z)(hz:0<z)(hf:YU X.fre n σ.ob=true):J2 X ⟨σ.nt,σ.sl,(n,.row e [] true)::Ym (fun _=>false) (fun _=>true) σ.ob⟩ a w (⟨n,.row e [] true,.slice none 0 0,[]⟩::Vp (fun _=>false) (fun _=>true) en):=by
 have c:∀x∈en,x.nm≠n:=fun x hx e=>by
  have:hasN n σ.ob=true:=Ji.2 ⟨x.key,h.ob.mem_iff.1 (Xaf.2 ⟨x,hx,rfl⟩),e⟩
  rw[(Q9 hf).1]at this;cases this
 have f:QaQ X.P X.w0 X.Z X.O en w w (fun _=>false) [⟨n,.row e [] true,.slice none 0 0,[]⟩] (fun _=>true):=by
  refine⟨h.mem,fun n hn=>Bool.noConfusion hn,fun x hx hd _=>Bool.noConfusion hd,rfl,rfl,rfl,Xaj _,fun b _ _=>rfl,fun y hy b hb=>?_,fun y hy x hx _=>?_,by simp,by simp,fun y hy=>?_⟩
  ·obtain rfl:y=_:=by simpa using hy
   rcases hb with hb|⟨_,hb⟩ <;> cases hb
  ·obtain rfl:y=_:=by simpa using hy
   exact c x hx
  ·obtain rfl:y=_:=by simpa using hy
   exact X.Z.lo _ _ (Q9 hf).2
 have d:=h.swap2 f (fun y hy=>by
  obtain rfl:y=_:=by simpa using hy
  unfold EntOk
  exact⟨z,[],hi,hz,World.ownsRow_nil w 0 e z,by simp,⟨rfl,rfl⟩,by simp,fun g hg=>by simp[blk]at hg,fun _=>⟨by simp,by simp,NstL.nil ⟨rfl,rfl⟩⟩⟩)
 rw[Qa7]at d
 exact d
theorem Zn(t n:Nat){c:Code}{Q:Exit->AS->Prop}(e:TypeId)[te:TI X.P e](hv:look σ.sl t=.nil)(hz:Nat.blt 0 te.size=true)(hf:YU X.fre n σ.ob=true)(h:AWp X c Q ⟨σ.nt,(t,.row n)::σ.sl,(n,.row e [] true)::Ym (fun _=>false) (fun _=>true) σ.ob⟩):AWp X c Q σ:=fun a w ⟨en,hr⟩=>by
 have b:=hr.addNil n te.sized (Jp hz) hf
 refine h a w ⟨_,b.mem,b.ob,b.defers,b.size,fun s=>?_⟩
 simp only[QQ]
 split
 ·rename_i d
  subst d
  have:=hr.slots t
  rw[hv]at this
  rw[show a.tmps.getD t undef=.slice none 0 0 from this]
  exact⟨_,Xaa,rfl,rfl,rfl⟩
 ·exact b.slots s
theorem VI{T e eq:TypeId}{len q:Nat}{parts:Array (Nat×Operand)}{cs pre post:List AV}{dpre dpost:List D}{esq es:List (List D)}{dq:Bool}[te:TI X.P e](ho:o.op=.buildSlice T len parts)(hd:o.dst=some t)(hT:JD X T=some e)(hk:VS te)(hz1:te.zero.cells.toList.all Value.oneCell'=true)
  (hcs:QkH te.size (Qf2 te.zero len) (σ.evParts parts.toList)=some cs) (hsp:QkF cs=some (pre,q,post)) (hpre:YY pre=some dpre) (hpost:YY post=some dpost) (hq:Ql σ.ob q=some (.row eq esq dq))
  (hfp:dpre.all D.flat1=true) (hfo:dpost.all D.flat1=true) (hfq:Wg esq=true) (hl:Nat.beq (dpre.length+(1+dpost.length)) (len*te.size)=true) (hsm:Nat.ble (len*te.size) 16777216=true) (hes:QeK (chunk te.size len (dpre++.sl esq::dpost)) some=some es) (hf:YU X.fre t σ.ob=true) (ht:Nat.blt t σ.nt=true)
  (hK:K ⟨σ.nt,(t,.row t)::cutS (notN q) σ.sl,(t,.row e es true)::Ym (isPQ q q) (notN q) σ.ob⟩):OpOk X o σ K:=by
 intro a w hr next Q ar
 obtain⟨en,m⟩:=hr
 rw[Qba]at hes
 injection hes with hes
 subst hes
 have hu:=QO hT
 obtain⟨qi,q1,q2,q3,q4⟩:=te.parts
 have aa:=Jp hk.pos
 have az:te.zero.cells.size=te.size:=(Qg _ _).1 hk.zero
 have k:((Array.range (len*te.size)).map (te.zero.cells[· % te.zero.cells.size]!)).toList=(List.replicate len te.zero.cells.toList).flatten:=by
  have h0:=Zj te.zero.cells len (by omega)
  rw[show len*te.zero.cells.size=len*te.size by rw[az]]at h0
  exact h0
 obtain⟨av,aw⟩:=ZE m parts.toList
 obtain⟨r,r1,r2,r3⟩:=Qc7 (vs:=parts.toList.map fun x=>(x.1,a.eval x.2)) (cells:=(Array.range (len*te.size)).map (te.zero.cells[· % te.zero.cells.size]!)) m.mem hcs
  (by rw[k];exact X7 te.zero len) (by rw[k];exact QdS hz1 len) av aw
 obtain⟨yq,z,ab,a8,Fq,ap,an,ac,ao⟩:=Ql4 m hq hfq
 rw[Qgm hsp]at r2
 obtain⟨u1,u,u2,c,s1,s2,s3⟩:=Xn r2
 obtain⟨F1,f1,_⟩:=YB hpre s1
 obtain⟨F2,f2,_⟩:=YB hpost s3
 have:=JF f1 (Jl hfp);subst this
 have:=JF f2 (Jl hfo);subst this
 have i:u=yq.val:=by
  obtain⟨y',ay,g1,_,g3⟩:=s2
  have:=m.mem.ent_unique ay z (g1.trans ab.symm)
  rw[g3,this]
 subst i
 have p:repL w (dpre++D.sl esq::dpost) (u1++yq.val::u2) Fq:=by
  have:=JS f1 (show repL w (D.sl esq::dpost) (yq.val::u2) Fq from⟨_,_,Fq,[],rfl,by simp,ap,f2⟩)
  simpa using this
 rw[<-c]at p
 have au:NstL X.P w (dpre++D.sl esq::dpost) r.toList:=by
  rw[c]
  refine NstL.app (Qy f1) (.flat (Jl hfp)) ?_
  intro j aj u' hj i af
  cases j with
  | zero=>
   simp only[List.getElem?_cons_zero,Xak,D.sl.injEq]at hj i
   subst hj;subst i
   obtain⟨zq,vq,a1,a2,a3,a4⟩:=ao af
   exact⟨eq,zq,vq,a1,a2,a3,a4⟩
  | succ j=>
   simp only[List.getElem?_cons_succ]at hj i
   exact(NstL.flat (P:=X.P) (w:=w) (us:=u2) (Jl hfo)) j aj u' hj i af
 have d:(dpre++D.sl esq::dpost).length=len*te.size:=by rw[<-(Qg _ _).1 hl];simp;omega
 obtain⟨g1,g2,g3⟩:=Qdg d p
 have ad:r.toList.length=len*te.size:=by rw[Qy p];exact d
 have bg:len<=16777216:=by
  have:=XaL hsm
  exact Xam (Xcj len aa) this
 let w':=w.alloc (.cells r e)
 have f:Ext w w':=Ext.alloc_ w _
 have l:(execOp a.eval o).run X.P w=.ok (.value (.slice (some ⟨w.heap.size,0,none⟩) len len)) w':=by
  have aq:parts.map (fun(x:Nat×Operand)=>(x.1,a.eval x.2))=(parts.toList.map fun x=>(x.1,a.eval x.2)).toArray:=by cases parts;simp
  have ag:¬(len*te.size>2 ^ 24):=by have:=XaL hsm;omega
  have l:(Instr.buildSlice T len (parts.map fun(x:Nat×Operand)=>(x.1,a.eval x.2))).run X.P w=.ok (.slice (some ⟨w.heap.size,0,none⟩) len len) (w.alloc (.cells r e)):=by
   rw[aq]
   have h0:len*te.size≠0:=by rw[<-d];simp
   exact run_buildSlice w T e len _ r qi te.zero hu q1 q2 (by rw[q3];exact ag) (by rw[q3];exact h0) (by rw[q3];exact r1)
  simp only[execOp,ho,Sem.run_bind,l,Result.andThen]
  rfl
 let x':Ent:=⟨t,.row e (chunk te.size len (dpre++D.sl esq::dpost)) true,.slice (some ⟨w.heap.size,0,none⟩) len len,Fq⟩
 have as:∀x∈en,x.nm≠t:=fun x f e=>by
  have:hasN t σ.ob=true:=Ji.2 ⟨x.key,m.ob.mem_iff.1 (Xaf.2 ⟨x,f,rfl⟩),e⟩
  rw[(Q9 hf).1]at this;cases this
 have ax:isPQ q q yq.nm=true:=Q8.2 (.inl ab)
 have hs:QaQ X.P X.w0 X.Z X.O en w w' (isPQ q q) [x'] (notN q):=by
  refine⟨m.mem,fun n hn=>?_,fun x f hd hpx=>?_,f.os,f.tape,f.output,f.size,fun b hb _=>f.block b hb,fun y hy b hb=>?_,fun y hy x f _=>?_,by simp,by simp,fun y hy=>?_⟩
  ·refine Q8.2 (.inl ?_)
   unfold notN at hn
   exact(Qg _ _).1 (by simpa using hn)
  ·rw[(Q8.1 hd).elim id id,Zd]at hpx
   cases hpx
  ·obtain rfl:y=x':=by simpa using hy
   rcases hb with hb|⟨_,hb⟩
   ·have:some w.heap.size=some b:=hb
    injection this with this
    exact .inl (XbU this)
   ·exact .inr ⟨yq,z,ax,.inl (ac b hb)⟩
  ·obtain rfl:y=x':=by simpa using hy
   exact as x f
  ·obtain rfl:y=x':=by simpa using hy
   exact X.Z.lo _ _ (Q9 hf).2
 have s:∀b∈Fq,b<w.heap.size:=fun b hb=>((m.mem.ok yq z).lt (ac b hb)).1
 have h9:=m.swap2 hs (fun y hy=>by
  obtain rfl:y=x':=by simpa using hy
  unfold EntOk
  refine⟨te.size,r.toList,te.sized,aa,?_,g2,QI f.size _ _ _ g1 (fun b hb=>f.block b (s b hb)),fun h=>Bool.noConfusion h,fun g hg=>?_,fun _=>⟨an,fun b hb=>⟨((m.mem.ok yq z).lt (ac b hb)).2,XaO (s b hb) f.size,fun hq=>?_⟩,?_⟩⟩
  ·rw[g3]
   refine⟨ad,.inr ⟨w.heap.size,len,r,rfl,Xae _,heap_alloc_new w _,Xaj _,by unfold maxLen;omega,by rw[<-Xax];exact ad,by rw[<-ad];exact Xal⟩⟩
  ·have:some w.heap.size=some g:=hg
   injection this with this
   subst this
   exact .inr m.mem.size
  ·have:some w.heap.size=some b:=hq
   injection this with this
   have:=s b hb
   omega
  ·rw[QbI d]
   exact au.same p (fun b hb=>f.block b (s b hb)))
 unfold Oper.wp
 rw[l,Oper.upon_value,hd]
 exact ar _ _ _ hK ⟨_,h9.put (t:=t) (v:=.row t) (u:=.slice (some ⟨w.heap.size,0,none⟩) len len) ⟨x',Xaa,rfl,rfl,rfl⟩ ht⟩
theorem Yb{s x:Operand}{T e:TypeId}{p q:Nat}{es es2:List (List D)}{n1 n2:Nat}[te:TI X.P e](ho:o.op=.call { callee:=.builtin .append,args:=#[s,x],argTypes:=#[T,T] })(hd:o.dst=some t)(hT:JD X T=some e)
  (hs:σ.ev s=.row p) (hp:Ql σ.ob p=some (.row e es true)) (hx:σ.ev x=.row q) (hq:Ql σ.ob q=some (.row e es2 true)) (hpq:Nat.beq p q=false) (hk:VS te) (hn1:es.length=n1) (hn2:es2.length=n2) (hb:n1+n2<=1099511627776) (hlo:X.fre p=true) (ht:Nat.blt t σ.nt=true)
  (hK:K ⟨σ.nt,(t,.row p)::cutS (Qhl p q) σ.sl,(p,.row e (es++es2) true)::Ym (isPQ p q) (Qhl p q) σ.ob⟩):OpOk X o σ K:=by
 intro a w hr next Q hn
 obtain⟨en,i⟩:=hr
 have au:p≠q:=fun e=>by rw[(Qg p q).2 e]at hpq;cases hpq
 have hu:=QO hT
 obtain⟨y,hy,aj,ai⟩:=i.ent hp
 have ag:=i.mem.ok y hy
 unfold EntOk at ag
 rw[ai]at ag
 obtain⟨z,us,k0,k1,k2,k3,k4,k5,k6,k7⟩:=ag
 obtain⟨bd,al,be⟩:=k7 rfl
 obtain⟨yq,r,aa,f⟩:=i.ent hq
 have m:=i.mem.ok yq r
 unfold EntOk at m
 rw[f]at m
 obtain⟨zq,am,j0,j1,j2,j3,j4,j5,j6,j7⟩:=m
 obtain⟨a9,ak,ba⟩:=j7 rfl
 obtain⟨qi,q1,q2,q3,q4⟩:=te.parts
 have a7:z=te.size:=by rw[te.sized]at k0;simpa using k0.symm
 subst a7
 have ac:zq=te.size:=by rw[te.sized]at j0;simpa using j0.symm
 subst ac
 obtain⟨k,a5,f1,f2,f3⟩:=QT i hs
 have:=i.mem.ent_unique a5 hy (f1.trans aj.symm)
 subst this
 obtain⟨y2,a6,f4,f5,f6⟩:=QT i hx
 have:=i.mem.ent_unique a6 r (f4.trans aa.symm)
 subst this
 obtain⟨A,ao,e1,g2,g3,g4,g5⟩:=JK j2
 have a0:Rd w te.size A es2.length ao am:=by
  refine⟨j2.1,g2,⟨by unfold maxLen at g3;omega,g4⟩,fun hn=>?_⟩
  obtain⟨g,hg⟩:=g5 hn
  subst hg
  refine⟨g,0,rfl,fun j v hj=>?_⟩
  rw[e1]at j2
  have ar:=(List.getElem?_eq_some_iff.1 hj).1
  rw[j2.1]at ar
  rw[XaZ,j2.cellAt j ar]
  exact hj
 have a1:es.length+es2.length<=1099511627776:=by rw[hn1,hn2];exact hb
 obtain⟨v',w',r1,r2,r3,r4⟩:=Y1 (P:=X.P) 0 T o.type e qi te.zero te.size te.bytes hu q1 q2 q3 q4 ((Qg _ _).1 hk.zero) k1 k.val es.length us k2 A es2.length ao am a0 (XM j4)
  (by unfold maxLen;omega) (Xe a1 hk.bytes) (Xae _)
 have ax:(execOp a.eval o).run X.P w=.ok (.value v') w':=by
  unfold execOp
  simp only[ho,resolve,invoke,builtin,Sem.run_bind,Sem.run_pure,Result.andThen_ok,Xbu,Xas,Xbj,f3,f6,e1,r1]
 let x':Ent:=⟨p,.row e (es++es2) true,v',k.fs++y2.fs⟩
 have ac:k.nm≠y2.nm:=by rw[aj,aa];exact au
 have d:∀b,b<w.heap.size->blk k.val≠some b->Same w w' b:=fun b hb hne=>r3.block b hb (by rw[QgU k2];exact fun e=>hne e.symm)
 have af:isPQ p q k.nm=true:=Q8.2 (.inl aj)
 have a2:isPQ p q y2.nm=true:=Q8.2 (.inr aa)
 have ap:∀b∈k.fs,Same w w' b:=fun b hb=>d b (al b hb).2.1 (al b hb).2.2
 have ad:∀b∈y2.fs,blk k.val≠some b:=fun b hb e=>i.mem.hd_ne hy r ac (.inl e) (.inr ⟨by rw[f];rfl,hb⟩)
 have aq:∀b∈y2.fs,Same w w' b:=fun b hb=>d b (ak b hb).2.1 (ad b hb)
 have a4:QaQ X.P X.w0 X.Z X.O en w w' (isPQ p q) [x'] (Qhl p q):=by
  refine⟨i.mem,fun n hn=>Qws hn,fun x hx hd hpx=>?_,r3.os,r3.tape,r3.output,r3.size,fun b hb hno=>d b hb (fun e=>hno k hy af (.inl e)),fun z hz b hb=>?_,fun z hz x hx hd e=>?_,by simp,by simp,fun z hz=>?_⟩
  ·unfold Qhl at hpx
   rw[hd]at hpx;cases hpx
  ·obtain rfl:z=x':=by simpa using hz
   rcases hb with hb|⟨_,hb⟩
   ·rcases r4 b hb with h|h
    ·exact .inl h
    ·exact .inr ⟨k,hy,af,.inl h⟩
   ·rcases Xag.1 hb with hb|hb
    ·exact .inr ⟨k,hy,af,.inr ⟨by rw[ai];rfl,hb⟩⟩
    ·exact .inr ⟨y2,r,a2,.inr ⟨by rw[f];rfl,hb⟩⟩
  ·obtain rfl:z=x':=by simpa using hz
   rw[Q8.2 (.inl e)]at hd;cases hd
  ·obtain rfl:z=x':=by simpa using hz
   exact X.Z.lo _ _ hlo
 have aw:=Yk (QI r3.size _ _ _ k4 ap) (QI r3.size _ _ _ j4 aq)
 have av:=i.swap2 a4 (fun z hz=>by
  obtain rfl:z=x':=by simpa using hz
  unfold EntOk
  refine⟨te.size,us++am,k0,k1,by rw[Xab];exact r2,fun l hl=>(Xag.1 hl).elim (k3 l) (j3 l),aw,fun h=>Bool.noConfusion h,fun g hg=>?_,fun _=>⟨?_,fun b hb=>?_,?_⟩⟩
  ·rcases r4 g hg with h|h
   ·exact .inr (Xam i.mem.size h)
   ·exact k6 g h
  ·show(k.fs++y2.fs).Nodup
   rw[Xbg]
   refine⟨bd,a9,fun b hb c hc e=>?_⟩
   subst e
   exact i.mem.hd_ne hy r ac (.inr ⟨by rw[ai];rfl,hb⟩) (.inr ⟨by rw[f];rfl,hc⟩)
  ·have ab:Frs X.w0 X.O b/\b<w.heap.size/\blk k.val≠some b:=by
    rcases Xag.1 hb with hb|hb
    ·exact al b hb
    ·exact⟨(ak b hb).1,(ak b hb).2.1,ad b hb⟩
   refine⟨ab.1,XaO ab.2.1 r3.size,fun hq=>?_⟩
   rcases r4 b hq with h|h
   ·have:=ab.2.1;omega
   ·exact ab.2.2 h
  ·rw[Xcx]
   exact NstL.app (Qy (Je k4)) (be.same (Je k4) ap) (ba.same (Je j4) aq))
 unfold Oper.wp
 rw[ax,Oper.upon_value,hd]
 exact hn _ _ _ hK ⟨_,av.put (t:=t) (v:=.row p) (u:=v') ⟨x',Xaa,rfl,rfl,rfl⟩ ht⟩
end
end
end Go.Proofs.YtkdniahincpmaaaGreat
