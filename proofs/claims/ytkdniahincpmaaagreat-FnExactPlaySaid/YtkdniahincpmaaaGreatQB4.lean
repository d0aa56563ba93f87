/-
  Regions that draw their order: each order tried. And nil as an empty list.
-/
import Derived.Test.YtkdniahincpmaaaGreatQB3
set_option maxRecDepth 100000
set_option maxHeartbeats 16000000
namespace Go.Proofs.YtkdniahincpmaaaGreat
open Go Go.RowKit
section

def rdyF(ls:List Bool)(o:Oper):Bool:=o.after.toList.all fun e=>!Region.binds .any e||ls.getD e.on false
def rdyG(ls:List Bool):Nat->List Oper->List Bool->List Nat
 | i,o::l,b::r=>bif b then rdyG ls (i+1) l r else(bif rdyF ls o then i::rdyG ls (i+1) l r else rdyG ls (i+1) l r)
 | _,_,_=>[]
def rdy(l:List Oper)(ls:List Bool):List Nat:=rdyG ls 0 l ls
def Qup{α:Type}:List Bool->(List Bool->Option α)->Option α
 | [],k=>k []
 | b::l,k=>match b with
  | true=>Qup l fun l'=>k (true::l')
  | false=>Qup l fun l'=>k (false::l')
def QyD(X:Cx)(N:AS->Prop):Exit->Act->World->Prop
 | .normal,a,w=>∃σ,N σ/\Rel X σ a w
 | _,_,_=>False
def EnC(X:Cx)(l:List Oper)(N:AS->Prop)(f:Nat)(ls:List Bool)(σ:AS):Prop:=l.length=ls.length->∀a w,Rel X σ a w->wpAny X.P .any l.toArray (QyD X N) f ls.toArray a w
def QyF(X:Cx)(l:List Oper)(N:AS->Prop)(f:Nat)(ls:List Bool)(σ:AS)(is:List Nat):Prop:=∀i∈is,∃o,l[i]?=some o/\o.guard=none/\OpOk X o σ (EnC X l N f (ls.set i true))
def PY(X:Cx)(o:Oper)(σ:AS)(v:AV):Prop:=∀a w en,J2 X σ a w en->∃u,(∀w',(execOp a.eval o).run X.P w'=.ok (.value u) w')/\v.shows w en (IM X en w) u
def Qw4:Op->Bool
 | .move _=>true
 | .fieldAddr _ _ _=>true
 | _=>false
def QuF(l:List Oper):List Nat->Option (Nat×Oper)
 | []=>none
 | i::is=>match l[i]? with
  | some o=>bif o.guard.isNone&&Qw4 o.op then some (i,o)else QuF l is
  | none=>QuF l is
section
variable {X:Cx} {l:List Oper} {N:AS->Prop} {σ:AS} {f:Nat} {ls:List Bool}
end
section
variable {X:Cx} {σ:AS} {o:Oper}
end

mutual
def AV.den:AV->AV
 | .nil=>.d (.sl [])
 | .agg xs=>.agg (denL xs)
 | .tup xs=>.tup (denL xs)
 | .clo g xs=>.clo g xs
 | .sub o i j=>.sub o i j
 | .any=>.any
 | .d x=>.d x
 | .row o=>.row o
 | .ptr o i=>.ptr o i
 | .pr o i j=>.pr o i j
 | .pd e i=>.pd e i
def denL:List AV->List AV
 | []=>[]
 | x::xs=>x.den::denL xs
end
section
variable {w:World} {en:List Ent} {I:Nat->Prop}
mutual
theorem AV.shows_den:∀(x:AV) (u:Value),x.shows w en I u->x.den.shows w en I u
 | .nil,u,h=>by
  rw[show u=.slice none 0 0 from h]
  exact⟨[],⟨none,0,0,[],[],rfl,Xaj _,Xae _,fun _=>rfl,by simp,⟨rfl,rfl⟩,.inl ⟨rfl,rfl⟩⟩,by simp⟩
 | .agg xs,u,h=>by
  obtain⟨us,h1,h2⟩:=h
  exact⟨us,h1,Qad xs us h2⟩
 | .tup xs,u,h=>by
  obtain⟨us,h1,h2⟩:=h
  exact⟨us,h1,Qad xs us h2⟩
 | .any,_,h=>h
 | .d _,_,h=>h
 | .row _,_,h=>h
 | .ptr _ _,_,h=>h
 | .pr _ _ _,_,h=>h
 | .pd _ _,_,h=>h
 | .clo _ _,_,h=>h
 | .sub _ _ _,_,h=>h
theorem Qad:∀(xs:List AV) (us:List Value),Qn w en I xs us->Qn w en I (denL xs) us
 | [],_,h=>h
 | x::xs,us,h=>by
  obtain⟨u,us',h1,h2,h3⟩:=h
  exact⟨u,us',h1,AV.shows_den x u h2,Qad xs us' h3⟩
end
end
end
section

def AO.den:AO->AO
 | .row e es dp=>.row e es dp
 | .box e cs=>.box e (denL cs)
theorem AO.den_isRow(x:AO):x.den.isRow=x.isRow:=by cases x <;> rfl
theorem AO.den_lens(x:AO):x.den.lens=x.lens:=by cases x <;> rfl
theorem AO.den_deep(x:AO):x.den.deep=x.deep:=by cases x <;> rfl
def AS.dena(σ:AS):AS:={ σ with sl:=σ.sl.map fun y=>(y.1,y.2.den),ob:=σ.ob.map fun y=>(y.1,y.2.den) }
def Ent.den(x:Ent):Ent:={ x with ao:=x.ao.den }
theorem QlF(t:Nat):∀(l:List (Nat×AV)),look (l.map fun y=>(y.1,y.2.den)) t=(look l t).den
 | []=>rfl
 | (s,v)::l=>by
  simp only[Xas,QQ]
  split
  ·rfl
  ·exact QlF t l
theorem J2.dena{X:Cx}{σ:AS}{a:Act}{w:World}{en:List Ent}(h:J2 X σ a w en):J2 X σ.dena a w (en.map Ent.den):=by
 have m:=h.mem
 have f:∀(z:Ent) (b:Nat),z.den.hd b↔z.hd b:=fun z b=>by
  unfold Ent.hd
  rw[show z.den.ao.deep=z.ao.deep from AO.den_deep z.ao]
  try exact Iff.rfl
 have k:∀b,IM X en w b->IM X (en.map Ent.den) w b:=fun b hb=>⟨hb.1,hb.2.1,fun y g=>by
  obtain⟨z,i,rfl⟩:=Xaf.1 g
  exact fun h=>hb.2.2 z i ((f z b).1 h)⟩
 have he:∀x∈en,∃y∈en.map Ent.den,Like x y:=fun x hx=>⟨x.den,Xaf.2 ⟨x,hx,rfl⟩,rfl,rfl,AO.den_isRow _,AO.den_lens _⟩
 have l:∀(x:AV) (u:Value),x.shows w en (IM X en w) u->x.den.shows w (en.map Ent.den) (IM X (en.map Ent.den) w) u:=fun x u hx=>
  AV.shows_den x u (AV.shows_mono (Xaj _) (fun _ _=>rfl) k he hx)
 refine⟨⟨m.os,m.tape,m.output,m.size,m.old,?_,?_,?_,?_,?_⟩,?_,h.defers,h.size,fun t=>?_⟩
 ·have:(en.map Ent.den).map Ent.nm=en.map Ent.nm:=by simp only[XaR];rfl
  rw[this]
  exact m.names
 ·exact XaX _ (fun x y hxy b h1 h2=>hxy b ((f x b).1 h1) ((f y b).1 h2)) m.blks
 ·intro y g
  obtain⟨z,i,rfl⟩:=Xaf.1 g
  have c:=m.ok z i
  unfold EntOk at c
  split at c
  ·rename_i e es dp d
   obtain⟨s,us,n,o,p,r,v,k5,k6,k7⟩:=c
   unfold EntOk
   simp only[Ent.den,d,AO.den]
   exact⟨s,us,n,o,p,r,v,fun hd b hb=>k b (k5 hd b hb),k6,k7⟩
  ·rename_i e cs d
   obtain⟨n,q,j,o,p,r,v⟩:=c
   unfold EntOk
   simp only[Ent.den,d,AO.den]
   refine⟨n,q,j,o,p,r,Qad cs _ ?_⟩
   exact Qd4 (Xaj _) (fun _ _=>rfl) k he v
 ·refine XaX _ (fun x y hxy h1 h2=>?_) m.apart
  exact hxy (by rw[<-AO.den_deep];exact h1) (by rw[<-AO.den_deep];exact h2)
 ·intro y g
  obtain⟨z,i,rfl⟩:=Xaf.1 g
  exact m.fix z i
 ·have e1:(en.map Ent.den).map Ent.key=(en.map Ent.key).map fun y=>(y.1,y.2.den):=by simp only[XaR];rfl
  rw[e1]
  exact h.ob.map _
 ·simp only[AS.dena,QlF]
  exact l _ _ (h.slots t)
section
variable {X:Cx} {σ:AS} {Q:Exit->AS->Prop}
theorem QA{c:Code}(h:AWp X c Q σ.dena):AWp X c Q σ:=fun a w ⟨_,hr⟩=>h a w ⟨_,hr.dena⟩
end
section
variable {X:Cx} {σ σ':AS} {o:Oper}
end
section
variable {X:Cx} {l:List Oper} {N:AS->Prop} {σ σ':AS} {f:Nat} {ls:List Bool}
end

def Qys(X:Cx)(o:Oper)(σ:AS):Option AS:=
 match o.dst with
 | some t=>match o.op with
  | .field T x f=>match X.tt T with
   | some ti=>match Qdm ti.desc f with
    | some (off,ft)=>match X.tt ft with
     | some tf=>match σ.ev x with
      | .agg xs=>bif J5 tf.desc then V2 ((xs.drop off).take tf.size) (fun ys=>vput σ t (.agg ys)) else(match xs[off]? with
       | some v=>vput σ t v
       | none=>none)
      | _=>none
     | none=>none
    | none=>none
   | none=>none
  | _=>none
 | none=>none

theorem QcT{P:Program}{o:Oper}{f:FuncId}{x:Operand}{cs:List Value}{as:Array Operand}{ats:Array TypeId}(ho:o.op=.call { callee:=.value x,args:=as,argTypes:=ats })(a:Act)(hv:a.eval x=.func (.func f) #[] cs.toArray)(w:World) :
  (execOp a.eval o).run P w=(callFunc f ((as.toList.map a.eval)++cs).toArray).run P w:=by
 have e:as.map a.eval++cs.toArray=((as.toList.map a.eval)++cs).toArray:=by cases as;simp
 simp only[execOp,ho,resolve,hv,<-e]
 simp[Deferred.ofValue,invoke]
section
variable {X:Cx} {σ:AS} {o:Oper} {K:AS->Prop} {t:Nat}
end

mutual
def AV.fzb(p:Nat)(ds:List D):AV->AV
 | .ptr o off=>bif Nat.beq o p then .pd ds off else .ptr o off
 | .row o=>bif Nat.beq o p then .any else .row o
 | .pr o i off=>bif Nat.beq o p then .any else .pr o i off
 | .agg xs=>.agg (fzbL p ds xs)
 | .tup xs=>.tup (fzbL p ds xs)
 | .clo g xs=>.clo g (fzbL p ds xs)
 | .sub o i j=>bif Nat.beq o p then .any else .sub o i j
 | x=>x
def fzbL(p:Nat)(ds:List D):List AV->List AV
 | []=>[]
 | x::xs=>x.fzb p ds::fzbL p ds xs
end
def AO.fzb(p:Nat)(ds:List D):AO->AO
 | .box e cs=>.box e (fzbL p ds cs)
 | x=>x
def AS.fzb(σ:AS)(p:Nat)(ds:List D):AS:=⟨σ.nt,σ.sl.map fun y=>(y.1,y.2.fzb p ds),(YT p σ.ob).map fun y=>(y.1,y.2.fzb p ds)⟩
theorem AO.fzb_isRow(p:Nat)(ds:List D)(x:AO):(x.fzb p ds).isRow=x.isRow:=by cases x <;> rfl
theorem AO.fzb_lens(p:Nat)(ds:List D)(x:AO):(x.fzb p ds).lens=x.lens:=by cases x <;> rfl
theorem AO.fzb_deep(p:Nat)(ds:List D)(x:AO):(x.fzb p ds).deep=x.deep:=by cases x <;> rfl
section
variable {w:World} {en en':List Ent} {I I':Nat->Prop} {p:Nat} {ds:List D}
mutual
theorem AV.shows_fzb(hI:∀b,I b->I' b)(hp:∀x∈en,x.nm=p->∀g,blk x.val=some g->∃us F,repL w ds us F/\(∀j v,us[j]?=some v->w.cell? ⟨g,j,none⟩=some v)/\I' g/\∀c∈F,I' c)(he:∀x∈en,x.nm≠p->∃y∈en',Like x y):∀(x:AV) (u:Value),x.shows w en I u->(x.fzb p ds).shows w en' I' u
 | .any,_,_=>trivial
 | .d x,u,h=>by
  obtain⟨F,h1,h2⟩:=h
  exact⟨F,h1,fun b hb=>hI b (h2 b hb)⟩
 | .nil,_,h=>h
 | .row o,u,h=>by
  obtain⟨x,hx,rfl,h1,rfl⟩:=h
  simp only[AV.fzb]
  by_cases ho:x.nm=p
  ·rw[(Qg _ _).2 ho]
   trivial
  ·rw[QcP ho]
   obtain⟨y,hy,l1,l2,l3,l4⟩:=he x hx ho
   exact⟨y,hy,l1,by rw[l3];exact h1,l2.symm⟩
 | .ptr o off,u,h=>by
  obtain⟨x,hx,rfl,h1,g,h2,h3⟩:=h
  simp only[AV.fzb]
  by_cases ho:x.nm=p
  ·rw[(Qg _ _).2 ho]
   obtain⟨us,F,k1,k2,k3,k4⟩:=hp x hx ho g h2
   exact⟨g,0,us,F,by rw[h3];simp,k1,fun j v hj=>by rw[XaZ];exact k2 j v hj,k3,k4⟩
  ·rw[QcP ho]
   obtain⟨y,hy,l1,l2,l3,l4⟩:=he x hx ho
   exact⟨y,hy,l1,by rw[l3];exact h1,g,by rw[l2];exact h2,h3⟩
 | .pr o i off,u,h=>by
  obtain⟨x,hx,rfl,h1,g,z,h2,h3,h4,h5⟩:=h
  simp only[AV.fzb]
  by_cases ho:x.nm=p
  ·rw[(Qg _ _).2 ho]
   trivial
  ·rw[QcP ho]
   obtain⟨y,hy,l1,l2,l3,l4⟩:=he x hx ho
   exact⟨y,hy,l1,by rw[l3];exact h1,g,z,by rw[l2];exact h2,by rw[l4];exact h3,by rw[l4];exact h4,h5⟩
 | .pd e off,u,h=>by
  obtain⟨b,o,us,F,h1,h2,h3,h4,h5⟩:=h
  exact⟨b,o,us,F,h1,h2,h3,hI b h4,fun c hc=>hI c (h5 c hc)⟩
 | .agg xs,u,h=>by
  obtain⟨us,h1,h2⟩:=h
  exact⟨us,h1,ZG hI hp he xs us h2⟩
 | .tup xs,u,h=>by
  obtain⟨us,h1,h2⟩:=h
  exact⟨us,h1,ZG hI hp he xs us h2⟩
 | .clo g xs,u,h=>by
  obtain⟨us,h1,h2⟩:=h
  exact⟨us,h1,ZG hI hp he xs us h2⟩
 | .sub o i j,u,h=>by
  obtain⟨x,hx,rfl,h1,h2,A,n,c,z,h3,h4,rfl⟩:=h
  simp only[AV.fzb]
  by_cases ho:x.nm=p
  ·rw[(Qg _ _).2 ho]
   trivial
  ·rw[QcP ho]
   obtain⟨y,hy,l1,l2,l3,l4⟩:=he x hx ho
   exact⟨y,hy,l1,by rw[l3];exact h1,by rw[l4];exact h2,A,n,c,z,by rw[l2];exact h3,by rw[l4];exact h4,rfl⟩
theorem ZG(hI:∀b,I b->I' b)(hp:∀x∈en,x.nm=p->∀g,blk x.val=some g->∃us F,repL w ds us F/\(∀j v,us[j]?=some v->w.cell? ⟨g,j,none⟩=some v)/\I' g/\∀c∈F,I' c)(he:∀x∈en,x.nm≠p->∃y∈en',Like x y):∀(xs:List AV) (us:List Value),Qn w en I xs us->Qn w en' I' (fzbL p ds xs) us
 | [],_,h=>h
 | x::xs,us,h=>by
  obtain⟨u,us',h1,h2,h3⟩:=h
  exact⟨u,us',h1,AV.shows_fzb hI hp he x u h2,ZG hI hp he xs us' h3⟩
end
end
theorem Qla(p:Nat)(ds:List D):∀(sl:List (Nat×AV)) (t:Nat),look (sl.map fun y=>(y.1,y.2.fzb p ds)) t=(look sl t).fzb p ds
 | [],_=>rfl
 | (k,x)::l,t=>by
  rw[Xas,QQ,QQ,Qla p ds l t]
  split <;> rfl
theorem J2.fzb{X:Cx}{σ:AS}{a:Act}{w:World}{en:List Ent}(h:J2 X σ a w en){p:Nat}{e:TypeId}{cs:List AV}{ds:List D}(hp:Ql σ.ob p=some (.box e cs))(hds:YY cs=some ds) :
  J2 X (σ.fzb p ds) a w ((en.filter fun y=>y.nm != p).map fun y=>{ y with ao:=y.ao.fzb p ds }):=by
 have m:=h.mem
 let g:Ent->Ent:=fun y=>{ y with ao:=y.ao.fzb p ds }
 have f:∀{y:Ent},y∈(en.filter fun y=>y.nm != p).map g->∃z∈en,z.nm≠p/\y=g z:=by
  intro y i
  simp only[Xaf,XaB,bne_iff_ne]at i
  obtain⟨z,⟨r,u⟩,rfl⟩:=i
  exact⟨z,r,u,rfl⟩
 obtain⟨y0,an,ac,ab⟩:=h.ent hp
 have k:∀(z:Ent) (b:Nat),(g z).hd b↔z.hd b:=fun z b=>by
  unfold Ent.hd
  rw[show(g z).ao.deep=z.ao.deep from AO.fzb_deep p ds z.ao]
  try exact Iff.rfl
 have hI:∀b,Imm X.w0 X.Z X.O en w b->Imm X.w0 X.Z X.O ((en.filter fun y=>y.nm != p).map g) w b:=fun b hb=>⟨hb.1,hb.2.1,fun y i=>by
  obtain⟨z,o,_,rfl⟩:=f i
  exact fun h=>hb.2.2 z o ((k z b).1 h)⟩
 have aa:∀x∈en,x.nm=p->∀q,blk x.val=some q->∃us F,repL w ds us F/\(∀j v,us[j]?=some v->w.cell? ⟨q,j,none⟩=some v)/\Imm X.w0 X.Z X.O ((en.filter fun y=>y.nm != p).map g) w q/\∀c∈F,Imm X.w0 X.Z X.O ((en.filter fun y=>y.nm != p).map g) w c:=fun x hx hn q hq=>by
  have:=m.ent_unique hx an (hn.trans ac.symm)
  subst this
  have d:=m.ok x hx
  obtain⟨l1,l2⟩:=d.lt hq
  unfold EntOk at d
  rw[ab]at d
  obtain⟨k0,q',l,k1,k2,k3,k4⟩:=d
  have e1:q'=q:=by
   rw[k1]at hq
   injection hq
  subst e1
  obtain⟨F,f1,f2⟩:=YB hds k4
  refine⟨l.toList,F,f1,fun j v hj=>?_,⟨.inr l2,l1,fun y i=>?_⟩,fun c hc=>hI c (f2 c hc)⟩
  ·simp only[World.cell?,k3]
   simpa using hj
  ·obtain⟨z,o,ad,rfl⟩:=f i
   exact fun hq'=>m.hd_ne hx o (fun e=>ad (e.symm.trans hn)) (.inl hq) ((k z _).1 hq')
 have hl:∀x∈en,x.nm≠p->∃y∈(en.filter fun y=>y.nm != p).map g,Like x y:=fun x hx hn=>
  ⟨g x,by simp only[Xaf,XaB,bne_iff_ne];exact⟨x,⟨hx,hn⟩,rfl⟩,rfl,rfl,AO.fzb_isRow p ds x.ao,AO.fzb_lens p ds x.ao⟩
 refine⟨⟨m.os,m.tape,m.output,m.size,m.old,?_,?_,?_,?_,fun y i=>by
  obtain⟨z,o,_,rfl⟩:=f i
  exact m.fix z o⟩,?_,h.defers,h.size,fun t=>?_⟩
 ·have:((en.filter fun y=>y.nm != p).map g).map Ent.nm=(en.filter fun y=>y.nm != p).map Ent.nm:=by simp only[XaR];rfl
  rw[this]
  exact Xbw (XbI _ XaC) m.names
 ·exact XaX _ (fun x y hxy b r u=>hxy b ((k x b).1 r) ((k y b).1 u)) (Xa1 XaC m.blks)
 ·intro y i
  obtain⟨z,o,ad,rfl⟩:=f i
  have d:=m.ok z o
  unfold EntOk at d
  split at d
  ·rename_i e' as aq n
   obtain⟨s,us,k0,k1,k2,k3,k4,k5,k6,k7⟩:=d
   unfold EntOk
   simp only[g,n,AO.fzb]
   exact⟨s,us,k0,k1,k2,k3,k4,fun hd b hb=>hI b (k5 hd b hb),k6,k7⟩
  ·rename_i e' al n
   obtain⟨k0,q,l,k1,k2,k3,k4⟩:=d
   unfold EntOk
   simp only[g,n,AO.fzb]
   exact⟨k0,q,l,k1,k2,k3,ZG hI aa hl al _ k4⟩
 ·exact XaX _ (fun x y hxy r u=>hxy (by rw[<-AO.fzb_deep p ds];exact r) (by rw[<-AO.fzb_deep p ds];exact u)) (Xa1 XaC m.apart)
 ·have e1:((en.filter fun y=>y.nm != p).map g).map Ent.key=(YT p (en.map Ent.key)).map fun y=>(y.1,y.2.fzb p ds):=by
   simp only[YT,XbQ,XaR]
   rfl
  rw[e1]
  exact(h.ob.filter _).map _
 ·simp only[AS.fzb,Qla]
  exact AV.shows_fzb hI aa hl _ _ (h.slots t)
section
variable {X:Cx} {σ:AS} {Q:Exit->AS->Prop}
theorem QwG(p:Nat){e:TypeId}{cs:List AV}{ds:List D}{c:Code}(hp:Ql σ.ob p=some (.box e cs))(hds:YY cs=some ds)(h:AWp X c Q (σ.fzb p ds)):AWp X c Q σ:=fun a w ⟨_,hr⟩=>h a w ⟨_,hr.fzb hp hds⟩
theorem Qsc(p:Nat){e:TypeId}{cs:List AV}{ds:List D}{K:AS->Prop}{o:Oper}(hp:Ql σ.ob p=some (.box e cs))(hds:YY cs=some ds)(h:OpOk X o (σ.fzb p ds) K):OpOk X o σ K:=fun a w ⟨_,hr⟩=>h a w ⟨_,hr.fzb hp hds⟩
end
end
section
def AS.okI(σ:AS):AV->Bool
 | .row p=>match Ql σ.ob p with
  | some (.row _ _ dp)=>!dp
  | _=>false
 | _=>true
section
variable {X:Cx} {σ:AS} {o:Oper} {K:AS->Prop} {t:Nat}
theorem QfF{a:Act}{w:World}{en:List Ent}(h:J2 X σ a w en){v:AV}{es:List (List D)}{u:Value}(hv:σ.els v=some es)(hI:σ.okI v=true)(hs:v.shows w en (IM X en w) u){z:Nat}(hz:lenE es z) :
  ∃A cap us F,u=.slice A es.length cap/\Rd w z A es.length cap us/\repE w es us F/\∀b∈F,IM X en w b:=by
 cases v with
 | d x=>
  cases x with
  | sl o=>
   simp only[AS.els,Xak]at hv
   subst hv
   obtain⟨F,h1,h2⟩:=hs
   obtain⟨A,cap,us,F',k1,i,k3,n⟩:=QoB h1 hz
   exact⟨A,cap,us,F',k1,i,k3,fun b hb=>h2 b (n b hb)⟩
  | _=>cases hv
 | nil=>
  simp only[AS.els,Xak]at hv
  subst hv
  rw[show u=.slice none 0 0 from hs]
  exact⟨none,0,[],[],rfl,⟨by simp,Xaj _,⟨by omega,fun _=>rfl⟩,fun hn=>absurd hn (by simp)⟩,⟨rfl,rfl⟩,by simp⟩
 | row p=>
  simp only[AS.els]at hv
  split at hv
  ·rename_i e o dp t
   injection hv with hv
   subst hv
   obtain⟨y,hy,r,q⟩:=h.ent t
   obtain⟨y',m,e1,e2,rfl⟩:=hs
   have:=h.mem.ent_unique m hy (e1.trans r.symm)
   subst this
   have f:=h.mem.ok y' m
   unfold EntOk at f
   rw[q]at f
   obtain⟨z0,us,k0,k1,i,k3,n,k5,k6,k7⟩:=f
   have l:=Jh n hz
   obtain⟨A,c,s,g2,g3,g4,g5⟩:=JK i
   refine⟨A,c,us,y'.fs,s,⟨l,g2,⟨by unfold maxLen at g3;omega,g4⟩,fun hn=>?_⟩,n,k5 (by simpa [AS.okI,t] using hI)⟩
   obtain⟨g,hg⟩:=g5 hn
   subst hg
   refine⟨g,0,rfl,fun j v hj=>?_⟩
   rw[s]at i
   have k:=(List.getElem?_eq_some_iff.1 hj).1
   rw[i.1]at k
   rw[XaZ,i.cellAt j k]
   exact hj
  ·cases hv
 | _=>cases hv
end
theorem QiO{w:World}{ds el:List D}{us vs:List Value}{F1 F2:List Nat}(h:repL w el us F1)(h':repL w ds vs F2)(k:Nat):∃F,repL w (splice el k ds) (splice us k vs) F/\∀b∈F,b∈F1\/b∈F2:=by
 have f:=Qy h'
 unfold splice
 obtain⟨G1,d,a⟩:=Qbx h k
 obtain⟨G2,e,c⟩:=Zc h (k+ds.length)
 rw[f]
 refine⟨_,JS (JS d h') e,fun b hb=>?_⟩
 simp only[Xag]at hb
 rcases hb with (hb|hb)|hb
 ·exact .inl (a b hb)
 ·exact .inr hb
 ·exact .inl (c b hb)
theorem Qjn{w:World}{z:Nat}:∀{es:List (List D)} {us:List Value} {F F2:List Nat} {i off:Nat} {el ds:List D} {vs:List Value},repE w es us F->(∀e∈es,e.length=z)->es[i]?=some el->repL w ds vs F2->off+ds.length<=z->
  ∃G,repE w (es.set i (splice el off ds)) (splice us (i*z+off) vs) G/\∀b∈G,b∈F\/b∈F2
 | [],us,F,F2,i,off,el,ds,vs,_,_,hi,_,_=>by simp at hi
 | e::es,us,F,F2,i,off,el,ds,vs,h,hz,hi,h',hle=>by
  obtain⟨u1,u2,Fa,Fb,rfl,rfl,k1,k2⟩:=h
  have hl1:u1.length=z:=by rw[Qy k1];exact hz e Xaa
  have hvl:=Qy h'
  cases i with
  | zero=>
   simp only[List.getElem?_cons_zero,Xak]at hi
   subst hi
   rw[Xbx,Xbo,XaZ,QaH (by omega)]
   obtain⟨G,g1,g2⟩:=QiO k1 h' off
   refine⟨G++Fb,⟨_,_,G,Fb,rfl,rfl,g1,k2⟩,fun b hb=>?_⟩
   rcases Xag.1 hb with hb|hb
   ·rcases g2 b hb with h|h
    ·exact .inl (Xat _ h)
    ·exact .inr h
   ·exact .inl (Xav _ hb)
  | succ i=>
   simp only[List.getElem?_cons_succ]at hi
   have e1:(i+1)*z+off=u1.length+(i*z+off):=by rw[hl1,XaU];omega
   rw[Xb2,e1,Z6]
   obtain⟨G,g1,g2⟩:=Qjn k2 (fun x hx=>hz x (Xad _ hx)) hi h' hle
   refine⟨Fa++G,⟨_,_,Fa,G,rfl,rfl,k1,g1⟩,fun b hb=>?_⟩
   rcases Xag.1 hb with hb|hb
   ·exact .inl (Xat _ hb)
   ·rcases g2 b hb with h|h
    ·exact .inl (Xav _ h)
    ·exact .inr h
section
variable {X:Cx} {σ:AS} {o:Oper} {K:AS->Prop} {t:Nat}
theorem QbP{a:Act}{w:World}{en:List Ent}(h:J2 X σ a w en){p:Nat}{e:TypeId}{es:List (List D)}{dp:Bool}[te:TI X.P e](hp:Ql σ.ob p=some (.row e es dp)) :
  ∃y∈en,y.nm=p/\y.ao=.row e es dp/\∃A c,y.val=.slice A es.length c/\es.length<=c/\(A=none->c=0)/\(0<es.length->∃g,A=some ⟨g,0,none⟩)/\∀l∈y.ao.lens,l=te.size:=by
 obtain⟨y,j,i,d⟩:=h.ent hp
 have b:=h.mem.ok y j
 unfold EntOk at b
 rw[d]at b
 obtain⟨z,us,k,k1,t,u,_⟩:=b
 have s:z=te.size:=by rw[te.sized]at k;simpa using k.symm
 subst s
 obtain⟨A,c,n,o,g3,q,r⟩:=JK t
 refine⟨y,j,i,d,A,c,n,o,q,r,fun l hl=>?_⟩
 rw[d]at hl
 obtain⟨m,f,rfl⟩:=Xaf.1 hl
 exact u m f
end
theorem QnS{P:Program}{f:FuncId}{e:TypeId}{es es':List (List D)}{d:Bool}{z:Nat}(hz:(P.info? e).map (·.size)=some z)(hfl:Wg es=true)(hfl':Wg es'=true)(hl:es'.map List.length=es.map List.length)(hent:∀us w',(callFunc f us).run P w'=.ok (.enter f us) w')
  (h:∀(w:World) (v:Value) (us:List Value),w.ownsRow 0 e z v es.length us->repE w es us []->Calls P f #[v] w fun en w'=>en=.returned (.tuple #[])/\w.grownBy w' (blk v)/\∃us',w'.ownsRow 0 e z v es.length us'/\repE w' es' us' []) :
  MCalls P f [.row 1000000] [(1000000,.row e es d)] (fun _:Unit=>True) (fun _=>[]) (fun _=>[(1000000,.row e es' d)]) (fun _=>[]):=by
 have k:es'.length=es.length:=by have:=congrArg List.length hl;simpa using this
 refine⟨⟨⟨.inr (.inl hfl),trivial⟩,fun _ _=>⟨⟨⟨rfl,rfl,hl.symm⟩,trivial⟩,.inr (.inl hfl'),trivial⟩⟩,?_⟩
 intro w Zp eh us hm a r
 obtain⟨x,rfl⟩:∃x,eh=[x]:=by
  cases eh with
  | nil=>exact absurd (congrArg List.length a) (by simp)
  | cons x l=>
   cases l with
   | nil=>exact⟨x,rfl⟩
   | cons y l=>exact absurd (congrArg List.length a) (by simp)
 simp only[Xas,Xbj,Ent.key,XbC,Xci,and_true]at a
 obtain⟨al,s⟩:=a
 obtain⟨v,us',rfl,hv,m⟩:=r
 have g:us'=[]:=m
 subst g
 obtain⟨y,hy,an,ao,t⟩:=hv
 have u:y=x:=by simpa using hy
 subst u
 have c:=hm.ok y Xaa
 have ad:=c
 unfold EntOk at c
 rw[s]at c
 obtain⟨z',vs,k0,k1,k2,k3,k4,k5,k6,k7⟩:=c
 have aa:z'=z:=by rw[hz]at k0;simpa using k0.symm
 subst aa
 have p:=YE k4 (Yt hfl)
 rw[p]at k4
 subst t
 refine⟨fun w'=>hent _ w',(h w y.val vs k2 k4).mono fun en w' ⟨he,hg,vs',ho,hr⟩=>⟨(),.tuple #[],[⟨1000000,.row e es' d,y.val,[]⟩],⟨trivial,rfl⟩,he,⟨hg.os,hg.tape,hg.output,hg.size,fun b hb hO=>?_,by simp,by simp,fun q n=>?_,by simp,fun q n=>?_⟩,?_,[],rfl,rfl⟩⟩
 ·exact hg.block b hb fun e=>hO ⟨y,Xaa,.inl e.symm⟩
 ·have i:q=⟨1000000,.row e es' d,y.val,[]⟩:=by simpa using n
  subst i
  unfold EntOk
  refine⟨z',vs',hz,k1,by rw[k];exact ho,fun el hel=>?_,hr,by simp,k6,fun _=>⟨by simp,by simp,NstL.nilE hr⟩⟩
  have h1:el.length∈es.map List.length:=by rw[<-hl];exact Xaf.2 ⟨el,hel,rfl⟩
  obtain⟨o,j,e1⟩:=Xaf.1 h1
  rw[<-e1]
  exact k3 o j
 ·have i:q=⟨1000000,.row e es' d,y.val,[]⟩:=by simpa using n
  subst i
  intro _ q n aj
  have:q=y:=by simpa using n
  rw[this]
 ·exact Xby _
theorem Qel(w:World):∀(l:List Int),repE w (intE l) (l.map (Value.int .i64)) []
 | []=>⟨rfl,rfl⟩
 | x::l=>⟨[.int .i64 x],l.map (Value.int .i64),[],[],rfl,rfl,⟨.int .i64 x,[],[],[],rfl,rfl,⟨rfl,rfl⟩,rfl,rfl⟩,Qel w l⟩
theorem Vq{w:World}:∀{l:List Int} {us:List Value} {F:List Nat},repE w (intE l) us F->us=l.map (Value.int .i64)
 | [],us,F,h=>h.1
 | b::l,us,F,h=>by
  obtain⟨u1,u2,F1,F2,rfl,rfl,k1,k2⟩:=h
  obtain⟨u,us',G1,G2,rfl,rfl,⟨rfl,rfl⟩,k3⟩:=k1
  rw[k3.1,Vq k2]
  rfl
section
variable {X:Cx} {σ:AS} {o:Oper} {K:AS->Prop} {t:Nat}
theorem Qwk{p:Nat}{ao ao':AO}(hp:Ql σ.ob p=some ao)(hd:o.dst=none)(hrow:ao'.isRow=ao.isRow)(hlens:ao'.lens=ao.lens)(hdeep:ao'.deep=ao.deep)
    (h:∀a w en y,J2 X σ a w en->y∈en->y.nm=p->y.ao=ao->EntOk X.P (Frs X.w0 X.O) w en (IM X en w) y->∃(g:Nat) (cur:Array Value),blk y.val=some g/\(execOp a.eval o).run X.P w=.ok (.value (.tuple #[])) (w.setRow g cur)/\
      ((∀(z:AV) (q:Value),z.shows w en (IM X en w) q->z.shows (w.setRow g cur) (⟨p,ao',y.val,y.fs⟩::JP (fun _=>true) p en) (IM X (⟨p,ao',y.val,y.fs⟩::JP (fun _=>true) p en) (w.setRow g cur)) q)->
       (∀b,IM X en w b->IM X (⟨p,ao',y.val,y.fs⟩::JP (fun _=>true) p en) (w.setRow g cur) b/\Same w (w.setRow g cur) b)->
        EntOk X.P (Frs X.w0 X.O) (w.setRow g cur) (⟨p,ao',y.val,y.fs⟩::JP (fun _=>true) p en) (IM X (⟨p,ao',y.val,y.fs⟩::JP (fun _=>true) p en) (w.setRow g cur)) ⟨p,ao',y.val,y.fs⟩))
    (hK:K ⟨σ.nt,σ.sl,(p,ao')::YT p σ.ob⟩):OpOk X o σ K:=by
  intro a w s next Q r
  obtain⟨en,f⟩:=s
  obtain⟨y,i,c,d⟩:=f.ent hp
  obtain⟨g,cur,k,l,m⟩:=h a w en y f i c d (f.mem.ok y i)
  have j:Qfi X.P X.w0 X.Z X.O en w (w.setRow g cur) p ⟨p,ao',y.val,y.fs⟩ (fun _=>true):=
    ⟨f.mem,fun _ _=>rfl,fun _ x hx e=>by
        have:=f.mem.ent_unique hx i (e.trans c.symm)
        subst this
        exact⟨e.symm,rfl,by rw[d];exact hrow,by rw[d];exact hlens⟩,rfl,rfl,rfl,by simp,
      fun b hb hno=>setRow_other w g b cur (fun e=>hno y i c (e▸k)),fun b hb=>.inr ⟨y,i,c,by
      rcases hb with hb|⟨hd,hb⟩
      · exact .inl hb
      · exact .inr ⟨by rw[d,<-hdeep];exact hd,hb⟩⟩,rfl,c▸f.mem.fix y i⟩
  have n:=f.swap_keep j (m (fun z q hz=>by have:=j.shows hz;rwa [AV.cut_true]at this) (fun b hb=>⟨j.imm hb,j.same hb⟩)) (fun hd z hz hzn hdz b hb=>by
    exact f.mem.apart_ne i hz (fun e=>hzn (e.symm.trans c)) (by rw[d,<-hdeep];exact hd) hdz hb)
  unfold Oper.wp
  rw[l,Oper.upon_value,hd]
  exact r _ _ _ hK ⟨_,n⟩
theorem Qd8{T e:TypeId}{x:Operand}{p i j:Nat}{es:List (List D)}{dp:Bool}{zd:List D}[te:TI X.P e](ho:o.op=.call { callee:=.builtin .clear,args:=#[x],argTypes:=#[T] })(hd:o.dst=none)(hT:JD X T=some e)(hx:σ.ev x=.sub p i j)(hp:Ql σ.ob p=some (.row e es dp))
  (hk:VS te) (hz1:te.zero.cells.toList.all Value.oneCell'=true) (hzd:(YY (VB te.zero)).bind (fun l=>Z2 l some)=some zd) (hfz:zd.all D.flat1=true) (hlz:Nat.beq zd.length te.size=true) (hfl:Wg es=true) (hij:i<j)
  (hK:K ⟨σ.nt,σ.sl,(p,.row e (es.take i++(List.replicate (j-i) zd++es.drop j)) dp)::YT p σ.ob⟩):OpOk X o σ K:=by
 have as:YY (VB te.zero)=some zd:=by
  cases hz:YY (VB te.zero) with
  | none=>rw[hz]at hzd;cases hzd
  | some l=>rw[hz,Xbc,Xd]at hzd;exact hzd
 have be:∀w,(zeroValue e).run X.P w=.ok te.zero w:=fun w=>by
  obtain⟨q,q1,q2,_⟩:=te.parts
  simp[zeroValue,typeInfo,q1,q2]
 have au:zd.length=te.size:=(Qg _ _).1 hlz
 have bl:=Jp hk.pos
 have bd:te.zero.cells.size=te.size:=(Qg _ _).1 hk.zero
 intro a w hr
 obtain⟨bs,h0⟩:=id hr
 obtain⟨y0,a9,f1,f2,f3,_,_,_,_,f4,f5,_⟩:=QT h0 hx
 obtain⟨y1,ba,g1,g2,_,_,_,_,_,_,g3⟩:=QbP h0 hp
 have:=h0.mem.ent_unique a9 ba (f1.trans g1.symm)
 subst this
 rw[g2]at f3
 simp only[AO.lens,Xar]at f3
 have r:∀y∈es,y.length=te.size:=fun y u=>g3 _ (by rw[g2];exact Xaf.2 ⟨y,u,rfl⟩)
 refine Qwk (ao':=.row e (es.take i++(List.replicate (j-i) zd++es.drop j)) dp) hp hd rfl ?_ rfl (fun a w en z h1 hz hzn hza hok=>?_) hK a w hr
 ·simp only[AO.lens]
  refine List.ext_getElem? fun k=>?_
  have ac:∀(l:List (List D)),(∀y∈l,y.length=te.size)->∀k,(l.map List.length)[k]?=if k<l.length then some te.size else none:=fun l hl k=>by
   rw[List.getElem?_map]
   split
   ·rename_i hk
    rw[List.getElem?_eq_getElem hk,XaW,hl _ (Xbm hk)]
   ·rename_i hk
    rw[List.getElem?_eq_none (by omega)]
    rfl
  rw[ac _ r,ac]
  ·congr 1
   simp only[Xab,Xah,Xbt,XaP,eq_iff_iff]
   omega
  ·intro y u
   rcases Xag.1 u with h|h
   ·exact r _ (XaE h)
   ·rcases Xag.1 h with h|h
    ·rw[Xbs h];exact au
    ·exact r _ (XaM h)
 ·have bk:=hok
  unfold EntOk at hok
  rw[hza]at hok
  obtain⟨s,us,k0,k1,k2,k3,k4,k5,k6,k7⟩:=hok
  have a7:s=te.size:=by rw[te.sized]at k0;simpa using k0.symm
  subst a7
  obtain⟨z',bb,e1,e2,e3,A',n,c',z0,e4,e5,e6⟩:=QT h1 hx
  have:=h1.mem.ent_unique bb hz (e1.trans hzn.symm)
  subst this
  rcases k2.2 with ⟨hv,hn0⟩|⟨g,cap,cur,hv,hbg,hg,hnc,hcm,hcs,htake⟩
  ·omega
  ·rw[hv]at e4
   injection e4 with e7 e8 e9
   subst e7;subst e9
   have bc:z0=te.size:=by
    obtain⟨y,u⟩:∃y,y∈es:=by
     cases es with
     | nil=>simp at f3;omega
     | cons q l=>exact⟨q,Xaa⟩
    rw[<-e5 y.length (by rw[hza];exact Xaf.2 ⟨y,u,rfl⟩),r y u]
   subst bc
   have hc:¬cap=i:=by omega
   have az:a.eval x=.slice (some ⟨g,0+i*te.size,none⟩) (j-i) (cap-i):=by
    rw[e6,subV,if_neg hc,XaW,Yl]
   have ar:(Builtin.zeroCells te.zero.cells (j-i)).toList=(List.replicate (j-i) te.zero.cells.toList).flatten:=by
    unfold Builtin.zeroCells
    exact Zj te.zero.cells (j-i) (by omega)
   have aa:(List.replicate (j-i) te.zero.cells.toList).flatten.length=(j-i)*te.size:=by
    rw[List.length_flatten,Xa0,List.sum_replicate_nat,Xax,bd]
   have b3:j*te.size=i*te.size+(j-i)*te.size:=by rw[<-XaU];congr 1;omega
   have b1:j*te.size<=cap*te.size:=XaI _ (by omega)
   have a2:∀v∈(List.replicate (j-i) te.zero.cells.toList).flatten,v.oneCell'=true:=fun v hv=>by
    obtain⟨l,hl,aa⟩:=List.mem_flatten.1 hv
    rw[Xbs hl]at aa
    exact XaD.1 hz1 v aa
   have am:=run_storeCells_at X.P g (0+i*te.size) e ((List.replicate (j-i) te.zero.cells.toList).flatten) 0 cur w hg (by rw[aa];omega) a2
   refine⟨g,(cur.toList.take (0+i*te.size+0)++(List.replicate (j-i) te.zero.cells.toList).flatten++cur.toList.drop (0+i*te.size+0+(List.replicate (j-i) te.zero.cells.toList).flatten.length)).toArray,by rw[hv];rfl,?_,fun hT' hIS=>?_⟩
   ·have hu:=QO hT
    have b2:j-i≠0:=by omega
    have ak:(Builtin.clear_ #[T] o.type #[a.eval x]).run X.P w=.ok (.tuple #[]) (w.setRow g (cur.toList.take (0+i*te.size+0)++(List.replicate (j-i) te.zero.cells.toList).flatten++cur.toList.drop (0+i*te.size+0+(List.replicate (j-i) te.zero.cells.toList).flatten.length)).toArray):=by
     rw[az]
     obtain⟨m,hm⟩:∃m,j-i=m+1:=⟨j-i-1,by omega⟩
     simp only[Builtin.clear_]
     rw[hm]at am ar ⊢
     simp only[List.getElem?_toArray,List.getElem?_cons_zero,Sem.run_bind,run_underlying hu,Result.andThen,be,ar,am,Sem.run_pure]
    simp only[execOp,ho,resolve,Sem.run_bind,Sem.run_pure,Result.andThen,invoke,builtin,Xbu,Xas,Xbj]
    rw[ak]
   ·have ab:=YE k4 (Yt hfl)
    rw[ab]at k4
    have al:es=es.take i++((es.take j).drop i++es.drop j):=by
     have:(es.take j).take i=es.take i:=by rw[XcD];congr 1;omega
     rw[<-this,<-Xao,XaK,XaK]
    rw[al]at k4
    obtain⟨u1,cc,F1,F23,a8,aj,r1,r2⟩:=Yq k4
    obtain⟨u2,u3,F2,F3,aq,a3,r3,r4⟩:=Yq r2
    have hF:F1=[]/\F2=[]/\F3=[]:=by
     rw[a3]at aj
     have:=congrArg List.length aj
     simp only[XaS,Xab]at this
     exact⟨Xaz (by omega),Xaz (by omega),Xaz (by omega)⟩
    obtain⟨rfl,rfl,rfl⟩:=hF
    have ah:u1.length=i*te.size:=by
     rw[Jh r1 (fun x hx=>r x (XaE hx))]
     congr 1
     simp;omega
    have ao:u2.length=(j-i)*te.size:=by
     rw[Jh r3 (fun x hx=>r x (XaE (XaM hx)))]
     congr 1
     simp;omega
    have ap:u3.length=(es.length-j)*te.size:=by
     rw[Jh r4 (fun x hx=>r x (XaM hx))]
     congr 1
     simp
    obtain⟨Fz,av,b8⟩:=YB (w:=w) (en:=[]) (I:=fun _=>True) as (YL te.zero.cells.toList)
    have a4:Fz=[]:=JF av (Jl hfz)
    subst a4
    have f:(es.take i++(List.replicate (j-i) zd++es.drop j)).length=es.length:=by
     simp only[Xab,Xah,Xbt,XaP]
     omega
    have ad:cur.toList.take (0+i*te.size+0)++(List.replicate (j-i) te.zero.cells.toList).flatten++cur.toList.drop (0+i*te.size+0+(List.replicate (j-i) te.zero.cells.toList).flatten.length)=u1++((List.replicate (j-i) te.zero.cells.toList).flatten++u3)++cur.toList.drop (es.length*te.size):=by
     have an:es.length*te.size=i*te.size+((j-i)*te.size+(es.length-j)*te.size):=by
      rw[<-XaU,<-XaU];congr 1;omega
     have a5:cur.toList=(u1++(u2++u3))++cur.toList.drop (es.length*te.size):=by
      rw[<-aq,<-a8,<-htake,XaK]
     have b0:(u1++(u2++u3)).length=es.length*te.size:=by
      simp only[Xab,ah,ao,ap,an]
     have ac:∀(a b c d v:List Value),((a++(b++c))++d).take a.length++v++((a++(b++c))++d).drop (a.length+b.length)=a++(v++c)++d:=fun a b c d v=>by
      rw[Xao a,Xcb,<-Xca,Xcc,Xao b,Xcc]
      simp
     have:=ac u1 u2 u3 (cur.toList.drop (es.length*te.size)) (List.replicate (j-i) te.zero.cells.toList).flatten
     rw[<-a5,ah,ao]at this
     rw[aa,XaZ,XbK]
     exact this
    have ae:repE (w.setRow g (cur.toList.take (0+i*te.size+0)++(List.replicate (j-i) te.zero.cells.toList).flatten++cur.toList.drop (0+i*te.size+0+(List.replicate (j-i) te.zero.cells.toList).flatten.length)).toArray) (es.take i++(List.replicate (j-i) zd++es.drop j)) (u1++((List.replicate (j-i) te.zero.cells.toList).flatten++u3)) []:=by
     have q1:=QI (w':=w.setRow g (cur.toList.take (0+i*te.size+0)++(List.replicate (j-i) te.zero.cells.toList).flatten++cur.toList.drop (0+i*te.size+0+(List.replicate (j-i) te.zero.cells.toList).flatten.length)).toArray) (by simp) _ _ _ r1 (by simp)
     have q3:=QI (w':=w.setRow g (cur.toList.take (0+i*te.size+0)++(List.replicate (j-i) te.zero.cells.toList).flatten++cur.toList.drop (0+i*te.size+0+(List.replicate (j-i) te.zero.cells.toList).flatten.length)).toArray) (by simp) _ _ _ r4 (by simp)
     have q2:=Ys (Vz (w':=w.setRow g (cur.toList.take (0+i*te.size+0)++(List.replicate (j-i) te.zero.cells.toList).flatten++cur.toList.drop (0+i*te.size+0+(List.replicate (j-i) te.zero.cells.toList).flatten.length)).toArray) (by simp) _ _ _ av (by simp)) (j-i)
     have:=Yk q1 (Yk q2 q3)
     simpa using this
    unfold EntOk
    refine⟨te.size,u1++((List.replicate (j-i) te.zero.cells.toList).flatten++u3),k0,k1,?_,fun y u=>?_,?_,by rw[ab];simp,k6,fun hd=>⟨by rw[ab];simp,by rw[ab];simp,NstL.nilE ae⟩⟩
    ·have ai:(u1++((List.replicate (j-i) te.zero.cells.toList).flatten++u3)).length=es.length*te.size:=by
      simp only[Xab,ah,aa,ap]
      rw[<-XaU,<-XaU];congr 1;omega
     refine⟨by rw[f];exact ai,.inr ⟨g,cap,_,by rw[hv,f],Xae _,setRow_heap w g cur _ e _ hg,by rw[f];exact hnc,hcm,?_,?_⟩⟩
     ·rw[ad]
      show List.length _=_
      have h4:(cur.toList.drop (es.length*te.size)).length=cap*te.size-es.length*te.size:=by rw[XaP,Xax,hcs]
      have:es.length*te.size<=cap*te.size:=XaI _ hnc
      rw[Xab,ai,h4]
      omega
     ·rw[ad,f,Xbe (by omega),<-ai,Xal]
    ·rcases Xag.1 u with h|h
     ·exact r _ (XaE h)
     ·rcases Xag.1 h with h|h
      ·rw[Xbs h];exact au
      ·exact r _ (XaM h)
    ·rw[ab]
     exact ae
end
theorem QfV(t:Nat){X:Cx}{c:Code}{Q:Exit->AS->Prop}{σ:AS}{p:Nat}{e:TypeId}{es:List (List D)}{dp:Bool}(n:Nat)(hv:look σ.sl t=.row p)(hp:Ql σ.ob p=some (.row e es dp))(hn:es.length=n)(h:AWp X c Q (σ.put t (.sub p 0 n))):AWp X c Q σ:=fun a w ⟨en,hr⟩=>by
 refine h a w ⟨en,⟨hr.mem,hr.ob,hr.defers,hr.size,fun s=>?_⟩⟩
 simp only[AS.put,QQ]
 split
 ·rename_i q
  subst q
  have m:=hr.slots t
  rw[hv]at m
  obtain⟨y,g,o,u,v⟩:=m
  obtain⟨y',i,x,d⟩:=hr.ent hp
  have:=hr.mem.ent_unique g i (o.trans x.symm)
  subst this
  have b:=hr.mem.ok y g
  unfold EntOk at b
  rw[d]at b
  obtain⟨z,us,k0,k1,k2,k3,_⟩:=b
  obtain⟨A,j,k,_⟩:=JK k2
  refine⟨y,g,o,u,⟨Nat.zero_le _,by rw[d];simp[AO.lens,hn]⟩,A,_,j,z,k,fun l hl=>?_,?_⟩
  ·rw[d]at hl
   obtain⟨r,f,rfl⟩:=Xaf.1 hl
   exact k3 r f
  ·rw[v,k,subV,Xbo,hn]
   have:(if j=0 then A else A.map (·.add 0))=A:=by
    split
    ·rfl
    ·cases A with
     | none=>rfl
     | some a=>simp[Addr.add]
   rw[this]
   rfl
 ·exact hr.slots s

section
variable {X:Cx} {σ:AS} {o:Oper} {K:AS->Prop} {t:Nat}
theorem QlD{es:List (List D)}{i:Nat}{el el':List D}(hel:es[i]?=some el)(h:el'.length=el.length):(es.set i el').map List.length=es.map List.length:=by
 rw[XbL,h]
 refine List.ext_getElem? fun k=>?_
 rw[List.getElem?_set]
 split
 ·rename_i a
  subst a
  split
  ·rw[List.getElem?_map,hel];rfl
  ·rename_i a
   rw[List.getElem?_eq_none (by simpa using a)]
 ·rfl
end
end
end Go.Proofs.YtkdniahincpmaaaGreat
