/-
  Regions that draw their order: each order tried. And nil as an empty list.
-/
import Derived.Test.YtihgfennoalocaaGreatKB3
set_option maxRecDepth 100000
set_option maxHeartbeats 16000000
namespace Go.Proofs.YtihgfennoalocaaGreat
open Go Go.RowKit
section

def rdyF(ls:List Bool)(o:Oper):Bool:=o.after.toList.all fun e=>!Region.binds .any e||ls.getD e.on false
def rdyG(ls:List Bool):Nat->List Oper->List Bool->List Nat
 | i,o::l,b::r=>bif b then rdyG ls (i+1) l r else(bif rdyF ls o then i::rdyG ls (i+1) l r else rdyG ls (i+1) l r)
 | _,_,_=>[]
def rdy(l:List Oper)(ls:List Bool):List Nat:=rdyG ls 0 l ls
def Qr2{α:Type}:List Bool->(List Bool->Option α)->Option α
 | [],k=>k []
 | b::l,k=>match b with
  | true=>Qr2 l fun l'=>k (true::l')
  | false=>Qr2 l fun l'=>k (false::l')
def Qvj(X:Cx)(N:AS->Prop):Exit->Act->World->Prop
 | .normal,a,w=>∃σ,N σ/\Rel X σ a w
 | _,_,_=>False
def EnC(X:Cx)(l:List Oper)(N:AS->Prop)(f:Nat)(ls:List Bool)(σ:AS):Prop:=l.length=ls.length->∀a w,Rel X σ a w->wpAny X.P .any l.toArray (Qvj X N) f ls.toArray a w
def Qvx(X:Cx)(l:List Oper)(N:AS->Prop)(f:Nat)(ls:List Bool)(σ:AS)(is:List Nat):Prop:=∀i∈is,∃o,l[i]?=some o/\o.guard=none/\OpOk X o σ (EnC X l N f (ls.set i true))
def PY(X:Cx)(o:Oper)(σ:AS)(v:AV):Prop:=∀a w en,JO X σ a w en->∃u,(∀w',(execOp a.eval o).run X.P w'=.ok (.value u) w')/\v.shows w en (IM X en w) u
def Quc:Op->Bool
 | .move _=>true
 | .fieldAddr _ _ _=>true
 | _=>false
def QrI(l:List Oper):List Nat->Option (Nat×Oper)
 | []=>none
 | i::is=>match l[i]? with
  | some o=>bif o.guard.isNone&&Quc o.op then some (i,o)else QrI l is
  | none=>QrI l is
section
variable {X:Cx} {l:List Oper} {N:AS->Prop} {σ:AS} {f:Nat} {ls:List Bool}
end
section
variable {X:Cx} {σ:AS} {o:Oper}
end

mutual
def AV.den:AV->AV
 | .nil=>.d (.sl [])
 | .agg xs=>.agg (denL xs)
 | .tup xs=>.tup (denL xs)
 | .clo g xs=>.clo g xs
 | .sub o i j=>.sub o i j
 | .any=>.any
 | .d x=>.d x
 | .row o=>.row o
 | .ptr o i=>.ptr o i
 | .pr o i j=>.pr o i j
 | .pd e i=>.pd e i
def denL:List AV->List AV
 | []=>[]
 | x::xs=>x.den::denL xs
end
section
variable {w:World} {en:List Ent} {I:Nat->Prop}
mutual
theorem AV.shows_den:∀(x:AV) (u:Value),x.shows w en I u->x.den.shows w en I u
 | .nil,u,h=>by
  rw[show u=.slice none 0 0 from h]
  exact⟨[],⟨none,0,0,[],[],rfl,Xam _,Xab _,fun _=>rfl,by simp,⟨rfl,rfl⟩,.inl ⟨rfl,rfl⟩⟩,by simp⟩
 | .agg xs,u,h=>by
  obtain⟨us,h1,h2⟩:=h
  exact⟨us,h1,Xf xs us h2⟩
 | .tup xs,u,h=>by
  obtain⟨us,h1,h2⟩:=h
  exact⟨us,h1,Xf xs us h2⟩
 | .any,_,h=>h
 | .d _,_,h=>h
 | .row _,_,h=>h
 | .ptr _ _,_,h=>h
 | .pr _ _ _,_,h=>h
 | .pd _ _,_,h=>h
 | .clo _ _,_,h=>h
 | .sub _ _ _,_,h=>h
theorem Xf:∀(xs:List AV) (us:List Value),Qn w en I xs us->Qn w en I (denL xs) us
 | [],_,h=>h
 | x::xs,us,h=>by
  obtain⟨u,us',h1,h2,h3⟩:=h
  exact⟨u,us',h1,AV.shows_den x u h2,Xf xs us' h3⟩
end
end
end
section

def AO.den:AO->AO
 | .row e es dp=>.row e es dp
 | .box e cs=>.box e (denL cs)
theorem AO.den_isRow(x:AO):x.den.isRow=x.isRow:=by cases x <;> rfl
theorem AO.den_lens(x:AO):x.den.lens=x.lens:=by cases x <;> rfl
theorem AO.den_deep(x:AO):x.den.deep=x.deep:=by cases x <;> rfl
def AS.dena(σ:AS):AS:={ σ with sl:=σ.sl.map fun y=>(y.1,y.2.den),ob:=σ.ob.map fun y=>(y.1,y.2.den) }
def Ent.den(x:Ent):Ent:={ x with ao:=x.ao.den }
theorem QjT(t:Nat):∀(l:List (Nat×AV)),look (l.map fun y=>(y.1,y.2.den)) t=(look l t).den
 | []=>rfl
 | (s,v)::l=>by
  simp only[Xaw,QM]
  split
  ·rfl
  ·exact QjT t l
theorem JO.dena{X:Cx}{σ:AS}{a:Act}{w:World}{en:List Ent}(h:JO X σ a w en):JO X σ.dena a w (en.map Ent.den):=by
 have m:=h.mem
 have hgd:∀(z:Ent) (b:Nat),z.den.hd b↔z.hd b:=fun z b=>by
  unfold Ent.hd
  rw[show z.den.ao.deep=z.ao.deep from AO.den_deep z.ao]
  try exact Iff.rfl
 have hI:∀b,IM X en w b->IM X (en.map Ent.den) w b:=fun b hb=>⟨hb.1,hb.2.1,fun y hy=>by
  obtain⟨z,hz,rfl⟩:=Xad.1 hy
  exact fun h=>hb.2.2 z hz ((hgd z b).1 h)⟩
 have he:∀x∈en,∃y∈en.map Ent.den,Like x y:=fun x hx=>⟨x.den,Xad.2 ⟨x,hx,rfl⟩,rfl,rfl,AO.den_isRow _,AO.den_lens _⟩
 have hsh:∀(x:AV) (u:Value),x.shows w en (IM X en w) u->x.den.shows w (en.map Ent.den) (IM X (en.map Ent.den) w) u:=fun x u hx=>
  AV.shows_den x u (AV.shows_mono (Xam _) (fun _ _=>rfl) hI he hx)
 refine⟨⟨m.os,m.tape,m.output,m.size,m.old,?_,?_,?_,?_,?_⟩,?_,h.defers,h.size,fun t=>?_⟩
 ·have:(en.map Ent.den).map Ent.nm=en.map Ent.nm:=by simp only[XaS];rfl
  rw[this]
  exact m.names
 ·exact XaW _ (fun x y hxy b h1 h2=>hxy b ((hgd x b).1 h1) ((hgd y b).1 h2)) m.blks
 ·intro y hy
  obtain⟨z,hz,rfl⟩:=Xad.1 hy
  have hok:=m.ok z hz
  unfold EntOk at hok
  split at hok
  ·rename_i e es dp hao
   obtain⟨s,us,k0,k1,k2,k3,k4,k5,k6,k7⟩:=hok
   unfold EntOk
   simp only[Ent.den,hao,AO.den]
   exact⟨s,us,k0,k1,k2,k3,k4,fun hd b hb=>hI b (k5 hd b hb),k6,k7⟩
  ·rename_i e cs hao
   obtain⟨k0,q,cur,k1,k2,k3,k4⟩:=hok
   unfold EntOk
   simp only[Ent.den,hao,AO.den]
   refine⟨k0,q,cur,k1,k2,k3,Xf cs _ ?_⟩
   exact QdX (Xam _) (fun _ _=>rfl) hI he k4
 ·refine XaW _ (fun x y hxy h1 h2=>?_) m.apart
  exact hxy (by rw[<-AO.den_deep];exact h1) (by rw[<-AO.den_deep];exact h2)
 ·intro y hy
  obtain⟨z,hz,rfl⟩:=Xad.1 hy
  exact m.fix z hz
 ·have e1:(en.map Ent.den).map Ent.key=(en.map Ent.key).map fun y=>(y.1,y.2.den):=by simp only[XaS];rfl
  rw[e1]
  exact h.ob.map _
 ·simp only[AS.dena,QjT]
  exact hsh _ _ (h.slots t)
section
variable {X:Cx} {σ:AS} {Q:Exit->AS->Prop}
theorem QD{c:Code}(h:AWp X c Q σ.dena):AWp X c Q σ:=fun a w ⟨_,hr⟩=>h a w ⟨_,hr.dena⟩
end
section
variable {X:Cx} {σ σ':AS} {o:Oper}
end
section
variable {X:Cx} {l:List Oper} {N:AS->Prop} {σ σ':AS} {f:Nat} {ls:List Bool}
end

def Qvq(X:Cx)(o:Oper)(σ:AS):Option AS:=
 match o.dst with
 | some t=>match o.op with
  | .field T x f=>match X.tt T with
   | some ti=>match Qca ti.desc f with
    | some (off,ft)=>match X.tt ft with
     | some tf=>match σ.ev x with
      | .agg xs=>bif JQ tf.desc then Vj ((xs.drop off).take tf.size) (fun ys=>vput σ t (.agg ys)) else(match xs[off]? with
       | some v=>vput σ t v
       | none=>none)
      | _=>none
     | none=>none
    | none=>none
   | none=>none
  | _=>none
 | none=>none

theorem QbP{P:Program}{o:Oper}{f:FuncId}{x:Operand}{cs:List Value}{as:Array Operand}{ats:Array TypeId}(ho:o.op=.call { callee:=.value x,args:=as,argTypes:=ats })(a:Act)(hv:a.eval x=.func (.func f) #[] cs.toArray)(w:World) :
  (execOp a.eval o).run P w=(callFunc f ((as.toList.map a.eval)++cs).toArray).run P w:=by
 have e:as.map a.eval++cs.toArray=((as.toList.map a.eval)++cs).toArray:=by cases as;simp
 simp only[execOp,ho,resolve,hv,<-e]
 simp[Deferred.ofValue,invoke]
section
variable {X:Cx} {σ:AS} {o:Oper} {K:AS->Prop} {t:Nat}
end

mutual
def AV.fzb(p:Nat)(ds:List D):AV->AV
 | .ptr o off=>bif Nat.beq o p then .pd ds off else .ptr o off
 | .row o=>bif Nat.beq o p then .any else .row o
 | .pr o i off=>bif Nat.beq o p then .any else .pr o i off
 | .agg xs=>.agg (fzbL p ds xs)
 | .tup xs=>.tup (fzbL p ds xs)
 | .clo g xs=>.clo g (fzbL p ds xs)
 | .sub o i j=>bif Nat.beq o p then .any else .sub o i j
 | x=>x
def fzbL(p:Nat)(ds:List D):List AV->List AV
 | []=>[]
 | x::xs=>x.fzb p ds::fzbL p ds xs
end
def AO.fzb(p:Nat)(ds:List D):AO->AO
 | .box e cs=>.box e (fzbL p ds cs)
 | x=>x
def AS.fzb(σ:AS)(p:Nat)(ds:List D):AS:=⟨σ.nt,σ.sl.map fun y=>(y.1,y.2.fzb p ds),(YB p σ.ob).map fun y=>(y.1,y.2.fzb p ds)⟩
theorem AO.fzb_isRow(p:Nat)(ds:List D)(x:AO):(x.fzb p ds).isRow=x.isRow:=by cases x <;> rfl
theorem AO.fzb_lens(p:Nat)(ds:List D)(x:AO):(x.fzb p ds).lens=x.lens:=by cases x <;> rfl
theorem AO.fzb_deep(p:Nat)(ds:List D)(x:AO):(x.fzb p ds).deep=x.deep:=by cases x <;> rfl
section
variable {w:World} {en en':List Ent} {I I':Nat->Prop} {p:Nat} {ds:List D}
mutual
theorem AV.shows_fzb(hI:∀b,I b->I' b)(hp:∀x∈en,x.nm=p->∀g,blk x.val=some g->∃us F,repL w ds us F/\(∀j v,us[j]?=some v->w.cell? ⟨g,j,none⟩=some v)/\I' g/\∀c∈F,I' c)(he:∀x∈en,x.nm≠p->∃y∈en',Like x y):∀(x:AV) (u:Value),x.shows w en I u->(x.fzb p ds).shows w en' I' u
 | .any,_,_=>trivial
 | .d x,u,h=>by
  obtain⟨F,h1,h2⟩:=h
  exact⟨F,h1,fun b hb=>hI b (h2 b hb)⟩
 | .nil,_,h=>h
 | .row o,u,h=>by
  obtain⟨x,hx,rfl,h1,rfl⟩:=h
  simp only[AV.fzb]
  by_cases ho:x.nm=p
  ·rw[(Qg _ _).2 ho]
   trivial
  ·rw[QbX ho]
   obtain⟨y,hy,l1,l2,l3,l4⟩:=he x hx ho
   exact⟨y,hy,l1,by rw[l3];exact h1,l2.symm⟩
 | .ptr o off,u,h=>by
  obtain⟨x,hx,rfl,h1,g,h2,h3⟩:=h
  simp only[AV.fzb]
  by_cases ho:x.nm=p
  ·rw[(Qg _ _).2 ho]
   obtain⟨us,F,k1,k2,k3,k4⟩:=hp x hx ho g h2
   exact⟨g,0,us,F,by rw[h3];simp,k1,fun j v hj=>by rw[XaZ];exact k2 j v hj,k3,k4⟩
  ·rw[QbX ho]
   obtain⟨y,hy,l1,l2,l3,l4⟩:=he x hx ho
   exact⟨y,hy,l1,by rw[l3];exact h1,g,by rw[l2];exact h2,h3⟩
 | .pr o i off,u,h=>by
  obtain⟨x,hx,rfl,h1,g,z,h2,h3,h4,h5⟩:=h
  simp only[AV.fzb]
  by_cases ho:x.nm=p
  ·rw[(Qg _ _).2 ho]
   trivial
  ·rw[QbX ho]
   obtain⟨y,hy,l1,l2,l3,l4⟩:=he x hx ho
   exact⟨y,hy,l1,by rw[l3];exact h1,g,z,by rw[l2];exact h2,by rw[l4];exact h3,by rw[l4];exact h4,h5⟩
 | .pd e off,u,h=>by
  obtain⟨b,o,us,F,h1,h2,h3,h4,h5⟩:=h
  exact⟨b,o,us,F,h1,h2,h3,hI b h4,fun c hc=>hI c (h5 c hc)⟩
 | .agg xs,u,h=>by
  obtain⟨us,h1,h2⟩:=h
  exact⟨us,h1,Vx hI hp he xs us h2⟩
 | .tup xs,u,h=>by
  obtain⟨us,h1,h2⟩:=h
  exact⟨us,h1,Vx hI hp he xs us h2⟩
 | .clo g xs,u,h=>by
  obtain⟨us,h1,h2⟩:=h
  exact⟨us,h1,Vx hI hp he xs us h2⟩
 | .sub o i j,u,h=>by
  obtain⟨x,hx,rfl,h1,h2,A,n,c,z,h3,h4,rfl⟩:=h
  simp only[AV.fzb]
  by_cases ho:x.nm=p
  ·rw[(Qg _ _).2 ho]
   trivial
  ·rw[QbX ho]
   obtain⟨y,hy,l1,l2,l3,l4⟩:=he x hx ho
   exact⟨y,hy,l1,by rw[l3];exact h1,by rw[l4];exact h2,A,n,c,z,by rw[l2];exact h3,by rw[l4];exact h4,rfl⟩
theorem Vx(hI:∀b,I b->I' b)(hp:∀x∈en,x.nm=p->∀g,blk x.val=some g->∃us F,repL w ds us F/\(∀j v,us[j]?=some v->w.cell? ⟨g,j,none⟩=some v)/\I' g/\∀c∈F,I' c)(he:∀x∈en,x.nm≠p->∃y∈en',Like x y):∀(xs:List AV) (us:List Value),Qn w en I xs us->Qn w en' I' (fzbL p ds xs) us
 | [],_,h=>h
 | x::xs,us,h=>by
  obtain⟨u,us',h1,h2,h3⟩:=h
  exact⟨u,us',h1,AV.shows_fzb hI hp he x u h2,Vx hI hp he xs us' h3⟩
end
end
theorem QkT(p:Nat)(ds:List D):∀(sl:List (Nat×AV)) (t:Nat),look (sl.map fun y=>(y.1,y.2.fzb p ds)) t=(look sl t).fzb p ds
 | [],_=>rfl
 | (k,x)::l,t=>by
  rw[Xaw,QM,QM,QkT p ds l t]
  split <;> rfl
theorem JO.fzb{X:Cx}{σ:AS}{a:Act}{w:World}{en:List Ent}(h:JO X σ a w en){p:Nat}{e:TypeId}{cs:List AV}{ds:List D}(hp:Qm σ.ob p=some (.box e cs))(hds:YP cs=some ds) :
  JO X (σ.fzb p ds) a w ((en.filter fun y=>y.nm != p).map fun y=>{ y with ao:=y.ao.fzb p ds }):=by
 have m:=h.mem
 let g:Ent->Ent:=fun y=>{ y with ao:=y.ao.fzb p ds }
 have hmem:∀{y:Ent},y∈(en.filter fun y=>y.nm != p).map g->∃z∈en,z.nm≠p/\y=g z:=by
  intro y hy
  simp only[Xad,XaF,bne_iff_ne]at hy
  obtain⟨z,⟨h1,h2⟩,rfl⟩:=hy
  exact⟨z,h1,h2,rfl⟩
 obtain⟨y0,hy0,hy0n,hy0a⟩:=h.ent hp
 have hgd:∀(z:Ent) (b:Nat),(g z).hd b↔z.hd b:=fun z b=>by
  unfold Ent.hd
  rw[show(g z).ao.deep=z.ao.deep from AO.fzb_deep p ds z.ao]
  try exact Iff.rfl
 have hI:∀b,Imm X.w0 X.Z X.O en w b->Imm X.w0 X.Z X.O ((en.filter fun y=>y.nm != p).map g) w b:=fun b hb=>⟨hb.1,hb.2.1,fun y hy=>by
  obtain⟨z,hz,_,rfl⟩:=hmem hy
  exact fun h=>hb.2.2 z hz ((hgd z b).1 h)⟩
 have hpx:∀x∈en,x.nm=p->∀q,blk x.val=some q->∃us F,repL w ds us F/\(∀j v,us[j]?=some v->w.cell? ⟨q,j,none⟩=some v)/\Imm X.w0 X.Z X.O ((en.filter fun y=>y.nm != p).map g) w q/\∀c∈F,Imm X.w0 X.Z X.O ((en.filter fun y=>y.nm != p).map g) w c:=fun x hx hn q hq=>by
  have:=m.ent_unique hx hy0 (hn.trans hy0n.symm)
  subst this
  have hok:=m.ok x hx
  obtain⟨l1,l2⟩:=hok.lt hq
  unfold EntOk at hok
  rw[hy0a]at hok
  obtain⟨k0,q',cur,k1,k2,k3,k4⟩:=hok
  have e1:q'=q:=by
   rw[k1]at hq
   injection hq
  subst e1
  obtain⟨F,f1,f2⟩:=Yn hds k4
  refine⟨cur.toList,F,f1,fun j v hj=>?_,⟨.inr l2,l1,fun y hy=>?_⟩,fun c hc=>hI c (f2 c hc)⟩
  ·simp only[World.cell?,k3]
   simpa using hj
  ·obtain⟨z,hz,hzn,rfl⟩:=hmem hy
   exact fun hq'=>m.hd_ne hx hz (fun e=>hzn (e.symm.trans hn)) (.inl hq) ((hgd z _).1 hq')
 have hl:∀x∈en,x.nm≠p->∃y∈(en.filter fun y=>y.nm != p).map g,Like x y:=fun x hx hn=>
  ⟨g x,by simp only[Xad,XaF,bne_iff_ne];exact⟨x,⟨hx,hn⟩,rfl⟩,rfl,rfl,AO.fzb_isRow p ds x.ao,AO.fzb_lens p ds x.ao⟩
 refine⟨⟨m.os,m.tape,m.output,m.size,m.old,?_,?_,?_,?_,fun y hy=>by
  obtain⟨z,hz,_,rfl⟩:=hmem hy
  exact m.fix z hz⟩,?_,h.defers,h.size,fun t=>?_⟩
 ·have:((en.filter fun y=>y.nm != p).map g).map Ent.nm=(en.filter fun y=>y.nm != p).map Ent.nm:=by simp only[XaS];rfl
  rw[this]
  exact Xbs (XbF _ XaE) m.names
 ·exact XaW _ (fun x y hxy b h1 h2=>hxy b ((hgd x b).1 h1) ((hgd y b).1 h2)) (Xa0 XaE m.blks)
 ·intro y hy
  obtain⟨z,hz,hzn,rfl⟩:=hmem hy
  have hok:=m.ok z hz
  unfold EntOk at hok
  split at hok
  ·rename_i e' es' dp' hao
   obtain⟨s,us,k0,k1,k2,k3,k4,k5,k6,k7⟩:=hok
   unfold EntOk
   simp only[g,hao,AO.fzb]
   exact⟨s,us,k0,k1,k2,k3,k4,fun hd b hb=>hI b (k5 hd b hb),k6,k7⟩
  ·rename_i e' cs' hao
   obtain⟨k0,q,cur,k1,k2,k3,k4⟩:=hok
   unfold EntOk
   simp only[g,hao,AO.fzb]
   exact⟨k0,q,cur,k1,k2,k3,Vx hI hpx hl cs' _ k4⟩
 ·exact XaW _ (fun x y hxy h1 h2=>hxy (by rw[<-AO.fzb_deep p ds];exact h1) (by rw[<-AO.fzb_deep p ds];exact h2)) (Xa0 XaE m.apart)
 ·have e1:((en.filter fun y=>y.nm != p).map g).map Ent.key=(YB p (en.map Ent.key)).map fun y=>(y.1,y.2.fzb p ds):=by
   simp only[YB,XbO,XaS]
   rfl
  rw[e1]
  exact(h.ob.filter _).map _
 ·simp only[AS.fzb,QkT]
  exact AV.shows_fzb hI hpx hl _ _ (h.slots t)
section
variable {X:Cx} {σ:AS} {Q:Exit->AS->Prop}
theorem Qsc(p:Nat){e:TypeId}{cs:List AV}{ds:List D}{c:Code}(hp:Qm σ.ob p=some (.box e cs))(hds:YP cs=some ds)(h:AWp X c Q (σ.fzb p ds)):AWp X c Q σ:=fun a w ⟨_,hr⟩=>h a w ⟨_,hr.fzb hp hds⟩
theorem Qrx(p:Nat){e:TypeId}{cs:List AV}{ds:List D}{K:AS->Prop}{o:Oper}(hp:Qm σ.ob p=some (.box e cs))(hds:YP cs=some ds)(h:OpOk X o (σ.fzb p ds) K):OpOk X o σ K:=fun a w ⟨_,hr⟩=>h a w ⟨_,hr.fzb hp hds⟩
end
end
section
def AS.okI(σ:AS):AV->Bool
 | .row p=>match Qm σ.ob p with
  | some (.row _ _ dp)=>!dp
  | _=>false
 | _=>true
section
variable {X:Cx} {σ:AS} {o:Oper} {K:AS->Prop} {t:Nat}
theorem Qe8{a:Act}{w:World}{en:List Ent}(h:JO X σ a w en){v:AV}{es:List (List D)}{u:Value}(hv:σ.els v=some es)(hI:σ.okI v=true)(hs:v.shows w en (IM X en w) u){z:Nat}(hz:lenE es z) :
  ∃A cap us F,u=.slice A es.length cap/\Rd w z A es.length cap us/\repE w es us F/\∀b∈F,IM X en w b:=by
 cases v with
 | d x=>
  cases x with
  | sl es'=>
   simp only[AS.els,Xal]at hv
   subst hv
   obtain⟨F,h1,h2⟩:=hs
   obtain⟨A,cap,us,F',k1,k2,k3,k4⟩:=QnG h1 hz
   exact⟨A,cap,us,F',k1,k2,k3,fun b hb=>h2 b (k4 b hb)⟩
  | _=>cases hv
 | nil=>
  simp only[AS.els,Xal]at hv
  subst hv
  rw[show u=.slice none 0 0 from hs]
  exact⟨none,0,[],[],rfl,⟨by simp,Xam _,⟨by omega,fun _=>rfl⟩,fun hn=>absurd hn (by simp)⟩,⟨rfl,rfl⟩,by simp⟩
 | row p=>
  simp only[AS.els]at hv
  split at hv
  ·rename_i e es' dp hl
   injection hv with hv
   subst hv
   obtain⟨y,hy,hyn,hya⟩:=h.ent hl
   obtain⟨y',hy',e1,e2,rfl⟩:=hs
   have:=h.mem.ent_unique hy' hy (e1.trans hyn.symm)
   subst this
   have hok:=h.mem.ok y' hy'
   unfold EntOk at hok
   rw[hya]at hok
   obtain⟨z0,us,k0,k1,k2,k3,k4,k5,k6,k7⟩:=hok
   have hlen:=Q6 k4 hz
   obtain⟨A,c,g1,g2,g3,g4,g5⟩:=Jx k2
   refine⟨A,c,us,y'.fs,g1,⟨hlen,g2,⟨by unfold maxLen at g3;omega,g4⟩,fun hn=>?_⟩,k4,k5 (by simpa [AS.okI,hl] using hI)⟩
   obtain⟨g,hg⟩:=g5 hn
   subst hg
   refine⟨g,0,rfl,fun j v hj=>?_⟩
   rw[g1]at k2
   have hl':=(List.getElem?_eq_some_iff.1 hj).1
   rw[k2.1]at hl'
   rw[XaZ,k2.cellAt j hl']
   exact hj
  ·cases hv
 | _=>cases hv
end
theorem QgW{w:World}{ds el:List D}{us vs:List Value}{F1 F2:List Nat}(h:repL w el us F1)(h':repL w ds vs F2)(k:Nat):∃F,repL w (splice el k ds) (splice us k vs) F/\∀b∈F,b∈F1\/b∈F2:=by
 have hl:=QA h'
 unfold splice
 obtain⟨G1,h1,g1⟩:=QaU h k
 obtain⟨G2,h2,g2⟩:=VT h (k+ds.length)
 rw[hl]
 refine⟨_,JE (JE h1 h') h2,fun b hb=>?_⟩
 simp only[Xag]at hb
 rcases hb with (hb|hb)|hb
 ·exact .inl (g1 b hb)
 ·exact .inr hb
 ·exact .inl (g2 b hb)
theorem Qid{w:World}{z:Nat}:∀{es:List (List D)} {us:List Value} {F F2:List Nat} {i off:Nat} {el ds:List D} {vs:List Value},repE w es us F->(∀e∈es,e.length=z)->es[i]?=some el->repL w ds vs F2->off+ds.length<=z->
  ∃G,repE w (es.set i (splice el off ds)) (splice us (i*z+off) vs) G/\∀b∈G,b∈F\/b∈F2
 | [],us,F,F2,i,off,el,ds,vs,_,_,hi,_,_=>by simp at hi
 | e::es,us,F,F2,i,off,el,ds,vs,h,hz,hi,h',hle=>by
  obtain⟨u1,u2,Fa,Fb,rfl,rfl,k1,k2⟩:=h
  have hl1:u1.length=z:=by rw[QA k1];exact hz e Xaa
  have hvl:=QA h'
  cases i with
  | zero=>
   simp only[List.getElem?_cons_zero,Xal]at hi
   subst hi
   rw[Xbt,Xbh,XaZ,XO (by omega)]
   obtain⟨G,g1,g2⟩:=QgW k1 h' off
   refine⟨G++Fb,⟨_,_,G,Fb,rfl,rfl,g1,k2⟩,fun b hb=>?_⟩
   rcases Xag.1 hb with hb|hb
   ·rcases g2 b hb with h|h
    ·exact .inl (Xat _ h)
    ·exact .inr h
   ·exact .inl (Xav _ hb)
  | succ i=>
   simp only[List.getElem?_cons_succ]at hi
   have e1:(i+1)*z+off=u1.length+(i*z+off):=by rw[hl1,XaR];omega
   rw[XbV,e1,ZI]
   obtain⟨G,g1,g2⟩:=Qid k2 (fun x hx=>hz x (Xae _ hx)) hi h' hle
   refine⟨Fa++G,⟨_,_,Fa,G,rfl,rfl,k1,g1⟩,fun b hb=>?_⟩
   rcases Xag.1 hb with hb|hb
   ·exact .inl (Xat _ hb)
   ·rcases g2 b hb with h|h
    ·exact .inl (Xav _ h)
    ·exact .inr h
section
variable {X:Cx} {σ:AS} {o:Oper} {K:AS->Prop} {t:Nat}
theorem Qa2{a:Act}{w:World}{en:List Ent}(h:JO X σ a w en){p:Nat}{e:TypeId}{es:List (List D)}{dp:Bool}[te:TI X.P e](hp:Qm σ.ob p=some (.row e es dp)) :
  ∃y∈en,y.nm=p/\y.ao=.row e es dp/\∃A c,y.val=.slice A es.length c/\es.length<=c/\(A=none->c=0)/\(0<es.length->∃g,A=some ⟨g,0,none⟩)/\∀l∈y.ao.lens,l=te.size:=by
 obtain⟨y,hy,hyn,hya⟩:=h.ent hp
 have hok:=h.mem.ok y hy
 unfold EntOk at hok
 rw[hya]at hok
 obtain⟨z,us,k0,k1,k2,k3,_⟩:=hok
 have hz:z=te.size:=by rw[te.sized]at k0;simpa using k0.symm
 subst hz
 obtain⟨A,c,g1,g2,g3,g4,g5⟩:=Jx k2
 refine⟨y,hy,hyn,hya,A,c,g1,g2,g4,g5,fun l hl=>?_⟩
 rw[hya]at hl
 obtain⟨el,hel,rfl⟩:=Xad.1 hl
 exact k3 el hel
end
theorem QlZ{P:Program}{f:FuncId}{e:TypeId}{es es':List (List D)}{d:Bool}{z:Nat}(hz:(P.info? e).map (·.size)=some z)(hfl:YT es=true)(hfl':YT es'=true)(hl:es'.map List.length=es.map List.length)(hent:∀us w',(callFunc f us).run P w'=.ok (.enter f us) w')
  (h:∀(w:World) (v:Value) (us:List Value),w.ownsRow 0 e z v es.length us->repE w es us []->Calls P f #[v] w fun en w'=>en=.returned (.tuple #[])/\w.grownBy w' (blk v)/\∃us',w'.ownsRow 0 e z v es.length us'/\repE w' es' us' []) :
  MCalls P f [.row 1000000] [(1000000,.row e es d)] (fun _:Unit=>True) (fun _=>[]) (fun _=>[(1000000,.row e es' d)]) (fun _=>[]):=by
 have hlen:es'.length=es.length:=by have:=congrArg List.length hl;simpa using this
 refine⟨⟨⟨.inr (.inl hfl),trivial⟩,fun _ _=>⟨⟨⟨rfl,rfl,hl.symm⟩,trivial⟩,.inr (.inl hfl'),trivial⟩⟩,?_⟩
 intro w Zp eh us hm hkey hsh
 obtain⟨x,rfl⟩:∃x,eh=[x]:=by
  cases eh with
  | nil=>exact absurd (congrArg List.length hkey) (by simp)
  | cons x l=>
   cases l with
   | nil=>exact⟨x,rfl⟩
   | cons y l=>exact absurd (congrArg List.length hkey) (by simp)
 simp only[Xaw,Xbb,Ent.key,Xbw,Xcd,and_true]at hkey
 obtain⟨hxn,hxa⟩:=hkey
 obtain⟨v,us',rfl,hv,hnil⟩:=hsh
 have hnil':us'=[]:=hnil
 subst hnil'
 obtain⟨y,hy,hyn,hyr,hyv⟩:=hv
 have hyx:y=x:=by simpa using hy
 subst hyx
 have hok:=hm.ok y Xaa
 have hokc:=hok
 unfold EntOk at hok
 rw[hxa]at hok
 obtain⟨z',vs,k0,k1,k2,k3,k4,k5,k6,k7⟩:=hok
 have hzz:z'=z:=by rw[hz]at k0;simpa using k0.symm
 subst hzz
 have hfs:=Yt k4 (Yd hfl)
 rw[hfs]at k4
 subst hyv
 refine⟨fun w'=>hent _ w',(h w y.val vs k2 k4).mono fun en w' ⟨he,hg,vs',ho,hr⟩=>⟨(),.tuple #[],[⟨1000000,.row e es' d,y.val,[]⟩],⟨trivial,rfl⟩,he,⟨hg.os,hg.tape,hg.output,hg.size,fun b hb hO=>?_,by simp,by simp,fun q hq=>?_,by simp,fun q hq=>?_⟩,?_,[],rfl,rfl⟩⟩
 ·exact hg.block b hb fun e=>hO ⟨y,Xaa,.inl e.symm⟩
 ·have hqx:q=⟨1000000,.row e es' d,y.val,[]⟩:=by simpa using hq
  subst hqx
  unfold EntOk
  refine⟨z',vs',hz,k1,by rw[hlen];exact ho,fun el hel=>?_,hr,by simp,k6,fun _=>⟨by simp,by simp,NstL.nilE hr⟩⟩
  have h1:el.length∈es.map List.length:=by rw[<-hl];exact Xad.2 ⟨el,hel,rfl⟩
  obtain⟨el',hel',e1⟩:=Xad.1 h1
  rw[<-e1]
  exact k3 el' hel'
 ·have hqx:q=⟨1000000,.row e es' d,y.val,[]⟩:=by simpa using hq
  subst hqx
  intro _ q hq hqn
  have:q=y:=by simpa using hq
  rw[this]
 ·exact Xbv _
theorem QdI(w:World):∀(l:List Int),repE w (intE l) (l.map (Value.int .i64)) []
 | []=>⟨rfl,rfl⟩
 | x::l=>⟨[.int .i64 x],l.map (Value.int .i64),[],[],rfl,rfl,⟨.int .i64 x,[],[],[],rfl,rfl,⟨rfl,rfl⟩,rfl,rfl⟩,QdI w l⟩
theorem WC{w:World}:∀{l:List Int} {us:List Value} {F:List Nat},repE w (intE l) us F->us=l.map (Value.int .i64)
 | [],us,F,h=>h.1
 | b::l,us,F,h=>by
  obtain⟨u1,u2,F1,F2,rfl,rfl,k1,k2⟩:=h
  obtain⟨u,us',G1,G2,rfl,rfl,⟨rfl,rfl⟩,k3⟩:=k1
  rw[k3.1,WC k2]
  rfl
section
variable {X:Cx} {σ:AS} {o:Oper} {K:AS->Prop} {t:Nat}
theorem QsC{p:Nat}{ao ao':AO}(hp:Qm σ.ob p=some ao)(hd:o.dst=none)(hrow:ao'.isRow=ao.isRow)(hlens:ao'.lens=ao.lens)(hdeep:ao'.deep=ao.deep)
    (h:∀a w en y,JO X σ a w en->y∈en->y.nm=p->y.ao=ao->EntOk X.P (Frs X.w0 X.O) w en (IM X en w) y->∃(g:Nat) (cur:Array Value),blk y.val=some g/\(execOp a.eval o).run X.P w=.ok (.value (.tuple #[])) (w.setRow g cur)/\
      ((∀(z:AV) (q:Value),z.shows w en (IM X en w) q->z.shows (w.setRow g cur) (⟨p,ao',y.val,y.fs⟩::JC (fun _=>true) p en) (IM X (⟨p,ao',y.val,y.fs⟩::JC (fun _=>true) p en) (w.setRow g cur)) q)->
       (∀b,IM X en w b->IM X (⟨p,ao',y.val,y.fs⟩::JC (fun _=>true) p en) (w.setRow g cur) b/\Same w (w.setRow g cur) b)->
        EntOk X.P (Frs X.w0 X.O) (w.setRow g cur) (⟨p,ao',y.val,y.fs⟩::JC (fun _=>true) p en) (IM X (⟨p,ao',y.val,y.fs⟩::JC (fun _=>true) p en) (w.setRow g cur)) ⟨p,ao',y.val,y.fs⟩))
    (hK:K ⟨σ.nt,σ.sl,(p,ao')::YB p σ.ob⟩):OpOk X o σ K:=by
  intro a w hr next Q hn
  obtain⟨en,h1⟩:=hr
  obtain⟨y,hy,hyn,hya⟩:=h1.ent hp
  obtain⟨g,cur,h2,h3,h4⟩:=h a w en y h1 hy hyn hya (h1.mem.ok y hy)
  have hs:Qef X.P X.w0 X.Z X.O en w (w.setRow g cur) p ⟨p,ao',y.val,y.fs⟩ (fun _=>true):=
    ⟨h1.mem,fun _ _=>rfl,fun _ x hx e=>by
        have:=h1.mem.ent_unique hx hy (e.trans hyn.symm)
        subst this
        exact⟨e.symm,rfl,by rw[hya];exact hrow,by rw[hya];exact hlens⟩,rfl,rfl,rfl,by simp,
      fun b hb hno=>setRow_other w g b cur (fun e=>hno y hy hyn (e▸h2)),fun b hb=>.inr ⟨y,hy,hyn,by
      rcases hb with hb|⟨hd,hb⟩
      · exact .inl hb
      · exact .inr ⟨by rw[hya,<-hdeep];exact hd,hb⟩⟩,rfl,hyn▸h1.mem.fix y hy⟩
  have h7:=h1.swap_keep hs (h4 (fun z q hz=>by have:=hs.shows hz;rwa [AV.cut_true]at this) (fun b hb=>⟨hs.imm hb,hs.same hb⟩)) (fun hd z hz hzn hdz b hb=>by
    exact h1.mem.apart_ne hy hz (fun e=>hzn (e.symm.trans hyn)) (by rw[hya,<-hdeep];exact hd) hdz hb)
  unfold Oper.wp
  rw[h3,Oper.upon_value,hd]
  exact hn _ _ _ hK ⟨_,h7⟩
theorem Qdl{T e:TypeId}{x:Operand}{p i j:Nat}{es:List (List D)}{dp:Bool}{zd:List D}[te:TI X.P e](ho:o.op=.call { callee:=.builtin .clear,args:=#[x],argTypes:=#[T] })(hd:o.dst=none)(hT:Ju X T=some e)(hx:σ.ev x=.sub p i j)(hp:Qm σ.ob p=some (.row e es dp))
  (hk:Vg te) (hz1:te.zero.cells.toList.all Value.oneCell'=true) (hzd:(YP (W0 te.zero)).bind (fun l=>Zi l some)=some zd) (hfz:zd.all D.flat1=true) (hlz:Nat.beq zd.length te.size=true) (hfl:YT es=true) (hij:i<j)
  (hK:K ⟨σ.nt,σ.sl,(p,.row e (es.take i++(List.replicate (j-i) zd++es.drop j)) dp)::YB p σ.ob⟩):OpOk X o σ K:=by
 have hzd':YP (W0 te.zero)=some zd:=by
  cases hz:YP (W0 te.zero) with
  | none=>rw[hz]at hzd;cases hzd
  | some l=>rw[hz,Xbd,ZX]at hzd;exact hzd
 have hzv:∀w,(zeroValue e).run X.P w=.ok te.zero w:=fun w=>by
  obtain⟨q,q1,q2,_⟩:=te.parts
  simp[zeroValue,typeInfo,q1,q2]
 have hzl:zd.length=te.size:=(Qg _ _).1 hlz
 have hpos:=Jg hk.pos
 have hzc:te.zero.cells.size=te.size:=(Qg _ _).1 hk.zero
 intro a w hr
 obtain⟨en0,h0⟩:=id hr
 obtain⟨y0,hy0,f1,f2,f3,_,_,_,_,f4,f5,_⟩:=QP h0 hx
 obtain⟨y1,hy1,g1,g2,_,_,_,_,_,_,g3⟩:=Qa2 h0 hp
 have:=h0.mem.ent_unique hy0 hy1 (f1.trans g1.symm)
 subst this
 rw[g2]at f3
 simp only[AO.lens,Xah]at f3
 have hsz:∀el∈es,el.length=te.size:=fun el hel=>g3 _ (by rw[g2];exact Xad.2 ⟨el,hel,rfl⟩)
 refine QsC (ao':=.row e (es.take i++(List.replicate (j-i) zd++es.drop j)) dp) hp hd rfl ?_ rfl (fun a w en z h1 hz hzn hza hok=>?_) hK a w hr
 ·simp only[AO.lens]
  refine List.ext_getElem? fun k=>?_
  have key:∀(l:List (List D)),(∀el∈l,el.length=te.size)->∀k,(l.map List.length)[k]?=if k<l.length then some te.size else none:=fun l hl k=>by
   rw[List.getElem?_map]
   split
   ·rename_i hk
    rw[List.getElem?_eq_getElem hk,XaT,hl _ (Xbf hk)]
   ·rename_i hk
    rw[List.getElem?_eq_none (by omega)]
    rfl
  rw[key _ hsz,key]
  ·congr 1
   simp only[Xac,Xai,Xbq,XaN,eq_iff_iff]
   omega
  ·intro el hel
   rcases Xag.1 hel with h|h
   ·exact hsz _ (XaC h)
   ·rcases Xag.1 h with h|h
    ·rw[Xbn h];exact hzl
    ·exact hsz _ (XaK h)
 ·have hok':=hok
  unfold EntOk at hok
  rw[hza]at hok
  obtain⟨s,us,k0,k1,k2,k3,k4,k5,k6,k7⟩:=hok
  have hss:s=te.size:=by rw[te.sized]at k0;simpa using k0.symm
  subst hss
  obtain⟨z',hz',e1,e2,e3,A',n,c',z0,e4,e5,e6⟩:=QP h1 hx
  have:=h1.mem.ent_unique hz' hz (e1.trans hzn.symm)
  subst this
  rcases k2.2 with ⟨hv,hn0⟩|⟨g,cap,cur,hv,hbg,hg,hnc,hcm,hcs,htake⟩
  ·omega
  ·rw[hv]at e4
   injection e4 with e7 e8 e9
   subst e7;subst e9
   have hz0:z0=te.size:=by
    obtain⟨el,hel⟩:∃el,el∈es:=by
     cases es with
     | nil=>simp at f3;omega
     | cons q l=>exact⟨q,Xaa⟩
    rw[<-e5 el.length (by rw[hza];exact Xad.2 ⟨el,hel,rfl⟩),hsz el hel]
   subst hz0
   have hc:¬cap=i:=by omega
   have e10:a.eval x=.slice (some ⟨g,0+i*te.size,none⟩) (j-i) (cap-i):=by
    rw[e6,subV,if_neg hc,XaT,J5]
   have hvs:(Builtin.zeroCells te.zero.cells (j-i)).toList=(List.replicate (j-i) te.zero.cells.toList).flatten:=by
    unfold Builtin.zeroCells
    exact VZ te.zero.cells (j-i) (by omega)
   have hvl:(List.replicate (j-i) te.zero.cells.toList).flatten.length=(j-i)*te.size:=by
    rw[List.length_flatten,Xa3,List.sum_replicate_nat,Xay,hzc]
   have hjs:j*te.size=i*te.size+(j-i)*te.size:=by rw[<-XaR];congr 1;omega
   have hjc:j*te.size<=cap*te.size:=XaH _ (by omega)
   have h1c:∀v∈(List.replicate (j-i) te.zero.cells.toList).flatten,v.oneCell'=true:=fun v hv=>by
    obtain⟨l,hl,hvl⟩:=List.mem_flatten.1 hv
    rw[Xbn hl]at hvl
    exact XaD.1 hz1 v hvl
   have hst:=run_storeCells_at X.P g (0+i*te.size) e ((List.replicate (j-i) te.zero.cells.toList).flatten) 0 cur w hg (by rw[hvl];omega) h1c
   refine⟨g,(cur.toList.take (0+i*te.size+0)++(List.replicate (j-i) te.zero.cells.toList).flatten++cur.toList.drop (0+i*te.size+0+(List.replicate (j-i) te.zero.cells.toList).flatten.length)).toArray,by rw[hv];rfl,?_,fun hT' hIS=>?_⟩
   ·have hu:=QL hT
    have hji:j-i≠0:=by omega
    have hrun:(Builtin.clear_ #[T] o.type #[a.eval x]).run X.P w=.ok (.tuple #[]) (w.setRow g (cur.toList.take (0+i*te.size+0)++(List.replicate (j-i) te.zero.cells.toList).flatten++cur.toList.drop (0+i*te.size+0+(List.replicate (j-i) te.zero.cells.toList).flatten.length)).toArray):=by
     rw[e10]
     obtain⟨m,hm⟩:∃m,j-i=m+1:=⟨j-i-1,by omega⟩
     simp only[Builtin.clear_]
     rw[hm]at hst hvs ⊢
     simp only[List.getElem?_toArray,List.getElem?_cons_zero,Sem.run_bind,run_underlying hu,Result.andThen,hzv,hvs,hst,Sem.run_pure]
    simp only[execOp,ho,resolve,Sem.run_bind,Sem.run_pure,Result.andThen,invoke,builtin,Xbr,Xaw,Xbb]
    rw[hrun]
   ·have hfs:=Yt k4 (Yd hfl)
    rw[hfs]at k4
    have hspl:es=es.take i++((es.take j).drop i++es.drop j):=by
     have:(es.take j).take i=es.take i:=by rw[Xcz];congr 1;omega
     rw[<-this,<-Xaq,XaO,XaO]
    rw[hspl]at k4
    obtain⟨u1,u23,F1,F23,hus,hF1,r1,r2⟩:=Yg k4
    obtain⟨u2,u3,F2,F3,hus2,hF2,r3,r4⟩:=Yg r2
    have hF:F1=[]/\F2=[]/\F3=[]:=by
     rw[hF2]at hF1
     have:=congrArg List.length hF1
     simp only[XaU,Xac]at this
     exact⟨XaA (by omega),XaA (by omega),XaA (by omega)⟩
    obtain⟨rfl,rfl,rfl⟩:=hF
    have hu1:u1.length=i*te.size:=by
     rw[Q6 r1 (fun x hx=>hsz x (XaC hx))]
     congr 1
     simp;omega
    have hu2:u2.length=(j-i)*te.size:=by
     rw[Q6 r3 (fun x hx=>hsz x (XaC (XaK hx)))]
     congr 1
     simp;omega
    have hu3:u3.length=(es.length-j)*te.size:=by
     rw[Q6 r4 (fun x hx=>hsz x (XaK hx))]
     congr 1
     simp
    obtain⟨Fz,kz1,kz2⟩:=Yn (w:=w) (en:=[]) (I:=fun _=>True) hzd' (Yq te.zero.cells.toList)
    have hFz:Fz=[]:=Jw kz1 (Jd hfz)
    subst hFz
    have hlen':(es.take i++(List.replicate (j-i) zd++es.drop j)).length=es.length:=by
     simp only[Xac,Xai,Xbq,XaN]
     omega
    have hnew:cur.toList.take (0+i*te.size+0)++(List.replicate (j-i) te.zero.cells.toList).flatten++cur.toList.drop (0+i*te.size+0+(List.replicate (j-i) te.zero.cells.toList).flatten.length)=u1++((List.replicate (j-i) te.zero.cells.toList).flatten++u3)++cur.toList.drop (es.length*te.size):=by
     have htot:es.length*te.size=i*te.size+((j-i)*te.size+(es.length-j)*te.size):=by
      rw[<-XaR,<-XaR];congr 1;omega
     have hc1:cur.toList=(u1++(u2++u3))++cur.toList.drop (es.length*te.size):=by
      rw[<-hus2,<-hus,<-htake,XaO]
     have hcl:(u1++(u2++u3)).length=es.length*te.size:=by
      simp only[Xac,hu1,hu2,hu3,htot]
     have key:∀(a b c d v:List Value),((a++(b++c))++d).take a.length++v++((a++(b++c))++d).drop (a.length+b.length)=a++(v++c)++d:=fun a b c d v=>by
      rw[Xaq a,Xb5,<-Xb3,Xb6,Xaq b,Xb6]
      simp
     have:=key u1 u2 u3 (cur.toList.drop (es.length*te.size)) (List.replicate (j-i) te.zero.cells.toList).flatten
     rw[<-hc1,hu1,hu2]at this
     rw[hvl,XaZ,XbI]
     exact this
    have hrep:repE (w.setRow g (cur.toList.take (0+i*te.size+0)++(List.replicate (j-i) te.zero.cells.toList).flatten++cur.toList.drop (0+i*te.size+0+(List.replicate (j-i) te.zero.cells.toList).flatten.length)).toArray) (es.take i++(List.replicate (j-i) zd++es.drop j)) (u1++((List.replicate (j-i) te.zero.cells.toList).flatten++u3)) []:=by
     have q1:=QH (w':=w.setRow g (cur.toList.take (0+i*te.size+0)++(List.replicate (j-i) te.zero.cells.toList).flatten++cur.toList.drop (0+i*te.size+0+(List.replicate (j-i) te.zero.cells.toList).flatten.length)).toArray) (by simp) _ _ _ r1 (by simp)
     have q3:=QH (w':=w.setRow g (cur.toList.take (0+i*te.size+0)++(List.replicate (j-i) te.zero.cells.toList).flatten++cur.toList.drop (0+i*te.size+0+(List.replicate (j-i) te.zero.cells.toList).flatten.length)).toArray) (by simp) _ _ _ r4 (by simp)
     have q2:=Ye (W3 (w':=w.setRow g (cur.toList.take (0+i*te.size+0)++(List.replicate (j-i) te.zero.cells.toList).flatten++cur.toList.drop (0+i*te.size+0+(List.replicate (j-i) te.zero.cells.toList).flatten.length)).toArray) (by simp) _ _ _ kz1 (by simp)) (j-i)
     have:=J3 q1 (J3 q2 q3)
     simpa using this
    unfold EntOk
    refine⟨te.size,u1++((List.replicate (j-i) te.zero.cells.toList).flatten++u3),k0,k1,?_,fun el hel=>?_,?_,by rw[hfs];simp,k6,fun hd=>⟨by rw[hfs];simp,by rw[hfs];simp,NstL.nilE hrep⟩⟩
    ·have hul:(u1++((List.replicate (j-i) te.zero.cells.toList).flatten++u3)).length=es.length*te.size:=by
      simp only[Xac,hu1,hvl,hu3]
      rw[<-XaR,<-XaR];congr 1;omega
     refine⟨by rw[hlen'];exact hul,.inr ⟨g,cap,_,by rw[hv,hlen'],Xab _,setRow_heap w g cur _ e _ hg,by rw[hlen'];exact hnc,hcm,?_,?_⟩⟩
     ·rw[hnew]
      show List.length _=_
      have h4:(cur.toList.drop (es.length*te.size)).length=cap*te.size-es.length*te.size:=by rw[XaN,Xay,hcs]
      have:es.length*te.size<=cap*te.size:=XaH _ hnc
      rw[Xac,hul,h4]
      omega
     ·rw[hnew,hlen',Xa8 (by omega),<-hul,Xap]
    ·rcases Xag.1 hel with h|h
     ·exact hsz _ (XaC h)
     ·rcases Xag.1 h with h|h
      ·rw[Xbn h];exact hzl
      ·exact hsz _ (XaK h)
    ·rw[hfs]
     exact hrep
end
theorem QeK(t:Nat){X:Cx}{c:Code}{Q:Exit->AS->Prop}{σ:AS}{p:Nat}{e:TypeId}{es:List (List D)}{dp:Bool}(n:Nat)(hv:look σ.sl t=.row p)(hp:Qm σ.ob p=some (.row e es dp))(hn:es.length=n)(h:AWp X c Q (σ.put t (.sub p 0 n))):AWp X c Q σ:=fun a w ⟨en,hr⟩=>by
 refine h a w ⟨en,⟨hr.mem,hr.ob,hr.defers,hr.size,fun s=>?_⟩⟩
 simp only[AS.put,QM]
 split
 ·rename_i e1
  subst e1
  have h1:=hr.slots t
  rw[hv]at h1
  obtain⟨y,hy,h2,h3,h4⟩:=h1
  obtain⟨y',hy',h5,h6⟩:=hr.ent hp
  have:=hr.mem.ent_unique hy hy' (h2.trans h5.symm)
  subst this
  have hok:=hr.mem.ok y hy
  unfold EntOk at hok
  rw[h6]at hok
  obtain⟨z,us,k0,k1,k2,k3,_⟩:=hok
  obtain⟨A,c',g1,_⟩:=Jx k2
  refine⟨y,hy,h2,h3,⟨Nat.zero_le _,by rw[h6];simp[AO.lens,hn]⟩,A,_,c',z,g1,fun l hl=>?_,?_⟩
  ·rw[h6]at hl
   obtain⟨el,hel,rfl⟩:=Xad.1 hl
   exact k3 el hel
  ·rw[h4,g1,subV,Xbh,hn]
   have:(if c'=0 then A else A.map (·.add 0))=A:=by
    split
    ·rfl
    ·cases A with
     | none=>rfl
     | some a=>simp[Addr.add]
   rw[this]
   rfl
 ·exact hr.slots s

section
variable {X:Cx} {σ:AS} {o:Oper} {K:AS->Prop} {t:Nat}
theorem Qj8{es:List (List D)}{i:Nat}{el el':List D}(hel:es[i]?=some el)(h:el'.length=el.length):(es.set i el').map List.length=es.map List.length:=by
 rw[XbJ,h]
 refine List.ext_getElem? fun k=>?_
 rw[List.getElem?_set]
 split
 ·rename_i hk
  subst hk
  split
  ·rw[List.getElem?_map,hel];rfl
  ·rename_i hk
   rw[List.getElem?_eq_none (by simpa using hk)]
 ·rfl
end
end
end Go.Proofs.YtihgfennoalocaaGreat
