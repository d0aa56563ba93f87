/-
  Regions that draw their order: each order tried. And nil as an empty list.
-/
import Derived.Test.YtkdniahincpmaaaGreatKB3
set_option maxRecDepth 100000
set_option maxHeartbeats 16000000
namespace Go.Proofs.YtkdniahincpmaaaGreat
open Go Go.RowKit
section

def rdyF(ls:List Bool)(o:Oper):Bool:=o.after.toList.all fun e=>!Region.binds .any e||ls.getD e.on false
def rdyG(ls:List Bool):Nat->List Oper->List Bool->List Nat
 | i,o::l,b::r=>bif b then rdyG ls (i+1) l r else(bif rdyF ls o then i::rdyG ls (i+1) l r else rdyG ls (i+1) l r)
 | _,_,_=>[]
def rdy(l:List Oper)(ls:List Bool):List Nat:=rdyG ls 0 l ls
theorem QlU{ls:List Bool}:∀(l:List Oper) (r:List Bool) (k i:Nat),l.length=r.length->(i∈rdyG ls k l r↔∃j o,i=k+j/\r[j]?=some false/\l[j]?=some o/\rdyF ls o=true)
 | [],[],k,i,_=>by simp[rdyG]
 | [],_::_,_,_,h=>by cases h
 | _::_,[],_,_,h=>by cases h
 | o::l,b::r,k,i,h=>by
  have ih:=QlU (ls:=ls) l r (k+1) i (by simpa using h)
  have key:(∃j q,i=k+j/\(b::r)[j]?=some false/\(o::l)[j]?=some q/\rdyF ls q=true)↔(i=k/\b=false/\rdyF ls o=true)\/i∈rdyG ls (k+1) l r:=by
   rw[ih]
   constructor
   ·rintro ⟨j,q,h1,h2,h3,h4⟩
    cases j with
    | zero=>
     simp only[List.getElem?_cons_zero,Xan]at h2 h3
     subst h3
     exact .inl ⟨by omega,h2,h4⟩
    | succ j=>
     simp only[List.getElem?_cons_succ]at h2 h3
     exact .inr ⟨j,q,by omega,h2,h3,h4⟩
   ·rintro (⟨h1,h2,h3⟩|⟨j,q,h1,h2,h3,h4⟩)
    ·exact⟨0,o,by omega,by simp[h2],by simp,h3⟩
    ·exact⟨j+1,q,by omega,by simpa using h2,by simpa using h3,h4⟩
  rw[key,rdyG]
  cases b with
  | true=>simp
  | false=>
   cases hf:rdyF ls o with
   | true=>simp
   | false=>simp
theorem QgV{l:List Oper}{ls:List Bool}(h:l.length=ls.length)(i:Nat):i∈Region.ready .any l.toArray ls.toArray↔i∈rdy l ls:=by
 unfold rdy
 rw[QlU l ls 0 i h]
 unfold Region.ready
 rw[Xay,XbE,Xab]
 have c:∀o:Oper,(o.after.all fun e=>!Region.binds .any e||ls.toArray.getD e.on false)=rdyF ls o:=fun o=>by
  unfold rdyF
  rw[<-Array.all_toList]
  congr 1
  funext e
  congr 1
  simp[Array.getD_eq_getD_getElem?,List.getD_eq_getElem?_getD]
 constructor
 ·rintro ⟨g,m,f⟩
  have d:i<l.length:=by simpa using g
  have a:i<ls.length:=by omega
  refine⟨i,l[i],by omega,?_,List.getElem?_eq_getElem d,?_⟩
  ·rw[List.getElem?_eq_getElem a]
   simpa [Array.getD_eq_getD_getElem?,a] using m
  ·have:l.toArray[i]?=some l[i]:=by simp[d]
   rw[this,XaP,XaI,c]at f
   exact f
 ·rintro ⟨j,o,g,m,f,n⟩
  rw[Xa8]at g
  subst g
  have p:=(List.getElem?_eq_some_iff.1 f).1
  refine⟨by simpa using p,?_,?_⟩
  ·simp[Array.getD_eq_getD_getElem?,m]
  ·have:l.toArray[i]?=some o:=by simpa using f
   rw[this,XaP,XaI,c]
   exact n
def QcZ{α:Type}:List Bool->(List Bool->Option α)->Option α
 | [],k=>k []
 | b::l,k=>match b with
  | true=>QcZ l fun l'=>k (true::l')
  | false=>QcZ l fun l'=>k (false::l')
theorem Qa7{α:Type}:∀(l:List Bool) (k:List Bool->Option α),QcZ l k=k l
 | [],k=>rfl
 | b::l,k=>by cases b <;> rw[QcZ,Qa7]
def Qxu(X:Cx)(N:AS->Prop):Exit->Act->World->Prop
 | .normal,a,w=>∃σ,N σ/\Rel X σ a w
 | _,_,_=>False
def EnC(X:Cx)(l:List Oper)(N:AS->Prop)(f:Nat)(ls:List Bool)(σ:AS):Prop:=l.length=ls.length->∀a w,Rel X σ a w->wpAny X.P .any l.toArray (Qxu X N) f ls.toArray a w
def Qln(X:Cx)(l:List Oper)(N:AS->Prop)(f:Nat)(ls:List Bool)(σ:AS)(is:List Nat):Prop:=∀i∈is,∃o,l[i]?=some o/\o.guard=none/\OpOk X o σ (EnC X l N f (ls.set i true))
def PY(X:Cx)(o:Oper)(σ:AS)(v:AV):Prop:=∀a w en,J2 X σ a w en->∃u,(∀w',(execOp a.eval o).run X.P w'=.ok (.value u) w')/\v.shows w en (IM X en w) u
def QiN:Op->Bool
 | .move _=>true
 | .fieldAddr _ _ _=>true
 | _=>false
def QeR(l:List Oper):List Nat->Option (Nat×Oper)
 | []=>none
 | i::is=>match l[i]? with
  | some o=>bif o.guard.isNone&&QiN o.op then some (i,o)else QeR l is
  | none=>QeR l is
theorem Qkn{l:List Oper}{is:List Nat}{i:Nat}{o:Oper}(h:QeR l is=some (i,o)):i∈is/\l[i]?=some o/\o.guard=none:=by
 induction is with
 | nil=>cases h
 | cons j is ih=>
  have a:QeR l is=some (i,o)->i∈j::is/\l[i]?=some o/\o.guard=none:=fun h=>⟨Xae _ (ih h).1,(ih h).2⟩
  rw[QeR]at h
  cases b:l[j]? with
  | none=>rw[b]at h;exact a h
  | some q=>
   rw[b]at h
   dsimp only at h
   cases hb:q.guard.isNone&&QiN q.op with
   | false=>rw[hb]at h;exact a h
   | true=>
    rw[hb]at h
    injection h with h
    injection h with h1 h2
    subst h1
    subst h2
    rw[Xab,Option.isNone_iff_eq_none]at hb
    exact⟨Xac,b,hb.1⟩
section
variable {X:Cx} {l:List Oper} {N:AS->Prop} {σ:AS} {f:Nat} {ls:List Bool}
theorem Qwx(hl:l.length=ls.length)(h:rdy l ls=[]):Region.ready .any l.toArray ls.toArray=[]:=by
 rw[Xcl]
 intro i a
 rw[QgV hl,h]at a
 cases a
theorem QxW(h:(rdy l ls).isEmpty=true)(hN:N σ):EnC X l N f ls σ:=fun hl a w hr=>by
 rw[List.isEmpty_iff]at h
 exact wpAny_done (Qwx hl h) ⟨σ,hN,hr⟩ f
theorem Qzg{i:Nat}{is:List Nat}(h:Vi (rdy l ls) some=some (i::is))(hK:Qln X l N f ls σ (i::is)):EnC X l N (f+1) ls σ:=fun hl a w hr=>by
 rw[Vy]at h
 injection h with h
 refine⟨fun h0=>?_,fun j hj=>?_⟩
 ·have:i∈Region.ready .any l.toArray ls.toArray:=by rw[QgV hl,h];exact Xac
  rw[h0]at this
  cases this
 ·rw[QgV hl,h]at hj
  obtain⟨o,b,c,d⟩:=hK j hj
  unfold wpOp
  have e:l.toArray[j]?=some o:=by simpa using b
  rw[e]
  simp only[Region.wanted,c,if_true]
  refine .inl (d a w hr _ _ fun σ' a' w' hk hr'=>?_)
  have:=hk (by simpa using hl) a' w' hr'
  simpa using this
theorem QvN:Qln X l N f ls σ []:=fun _ h=>by cases h
theorem QvD{i:Nat}{is:List Nat}{o:Oper}{ls':List Bool}(ho:l[i]?=some o)(hg:o.guard=none)(hl:QcZ (ls.set i true) some=some ls')(h1:OpOk X o σ (EnC X l N f ls'))(h2:Qln X l N f ls σ is):Qln X l N f ls σ (i::is):=fun j hj=>by
 rw[Qa7]at hl
 injection hl with hl
 subst hl
 rcases Xai.1 hj with rfl|hj
 ·exact⟨o,ho,hg,h1⟩
 ·exact h2 j hj
theorem QwZ{i t:Nat}{o:Oper}{v:AV}{ls':List Bool}(hi:QeR l (rdy l ls)=some (i,o))(hd:o.dst=some t)(ht:Nat.blt t σ.nt=true)(hs:Region.noSelect l.toArray=true)(hf:Region.free .any l.toArray ls.toArray i=true)
  (hl:QcZ (ls.set i true) some=some ls') (hy:PY X o σ v) (hK:EnC X l N f ls' (σ.put t v)):EnC X l N (f+1) ls σ:=fun hlen a w b=>by
 obtain⟨g,j,k⟩:=Qkn hi
 obtain⟨c,b⟩:=b
 obtain⟨u,d,e⟩:=hy a w c b
 rw[Qa7]at hl
 injection hl with hl
 subst hl
 refine wpAny_take (oi:=o) (v:=u) (by simpa using j) hs hf (by rw[List.contains_iff_mem,QgV hlen];exact g) (fun _ _ _ h=>h.elim) (.inl ⟨by simp only[Region.wanted,k],fun w'=>d w'⟩) ?_
 have:=hK (by simpa using hlen) (a.put o.dst u) w ⟨c,by rw[hd];exact b.put e ht⟩
 simpa using this
end
theorem QsC(id:Nat){X:Cx}{l:List Oper}{Q:Exit->AS->Prop}{σ σ':AS}{ls:List Bool}(hm:X.P.follows .mixedOrders=true)(hn:Xf σ=some σ')(hl:QcZ (l.map fun _=>false) some=some ls)(h:EnC X l (Q .normal) l.length ls σ'):AWp X (.region id l.toArray true) Q σ:=by
 rw[Qa7]at hl
 injection hl with hl
 subst hl
 refine Qa8 hn (fun a w hr=>?_)
 refine wp_mono (Q:=Qxu X (Q .normal)) (wp_region_any hm ?_) (fun e a w h=>?_)
 ·have e:Array.replicate l.toArray.size false=(l.map fun _=>false).toArray:=by simp[List.map_const']
  rw[e]
  simpa using h (by simp) a _ (hr.ext (Ext.drew w))
 ·cases e with
  | normal=>exact h
  | _=>exact h.elim
section
variable {X:Cx} {σ:AS} {o:Oper}
theorem Qwi{v:AV}{x:Operand}(ho:o.op=.move x)(hx:σ.ev x=v):PY X o σ v:=fun a w en h=>⟨_,fun w'=>by simp only[execOp,ho];rfl,QZ h hx⟩
theorem Qhu{T:TypeId}{x:Operand}{f off:Nat}{ft:TypeId}{v:AV}[ti:TI X.P T](ho:o.op=.fieldAddr T x f)(hf:Vv ti.desc f=some (off,ft))[tf:TI X.P ft](hz:Nat.beq tf.size 0=false)
  (hx:σ.ev x=v) (ha:v.isAddr=true):PY X o σ (v.offset off):=fun a w en h=>by
  have n:=QZ h hx
  obtain⟨b,k,e⟩:=Qgc ha n
  refine⟨_,fun w'=>?_,QcP n e off⟩
  unfold Vv at hf
  have p:=ti.und
  split at hf
  ·rename_i t c
   rw[c]at p
   obtain⟨i,u,_,y,_⟩:=tf.parts
   cases l:t[f]? with
   | none=>rw[l]at hf;cases hf
   | some fd=>
    rw[l]at hf
    simp only[XaP,Xan,XbT]at hf
    obtain⟨r,s⟩:=hf
    have m:¬i.size=0:=by
     rw[y];intro q
     rw[q]at hz
     cases hz
    simp[execOp,ho,e,Instr.fieldAt,run_underlying p,l,Instr.sureAddr,fieldPlace,sizeOf,typeInfo,s,u,m,r,Sem.run_pure,Yi]
  ·cases hf
end

mutual
def AV.den:AV->AV
 | .nil=>.d (.sl [])
 | .agg xs=>.agg (denL xs)
 | .tup xs=>.tup (denL xs)
 | .clo g xs=>.clo g xs
 | .sub o i j=>.sub o i j
 | .any=>.any
 | .d x=>.d x
 | .row o=>.row o
 | .ptr o i=>.ptr o i
 | .pr o i j=>.pr o i j
 | .pd e i=>.pd e i
def denL:List AV->List AV
 | []=>[]
 | x::xs=>x.den::denL xs
end
section
variable {w:World} {en:List Ent} {I:Nat->Prop}
mutual
theorem AV.shows_den:∀(x:AV) (u:Value),x.shows w en I u->x.den.shows w en I u
 | .nil,u,h=>by
  rw[show u=.slice none 0 0 from h]
  exact⟨[],⟨none,0,0,[],[],rfl,Xaj _,Xad _,fun _=>rfl,by simp,⟨rfl,rfl⟩,.inl ⟨rfl,rfl⟩⟩,by simp⟩
 | .agg xs,u,h=>by
  obtain⟨us,h1,h2⟩:=h
  exact⟨us,h1,X5 xs us h2⟩
 | .tup xs,u,h=>by
  obtain⟨us,h1,h2⟩:=h
  exact⟨us,h1,X5 xs us h2⟩
 | .any,_,h=>h
 | .d _,_,h=>h
 | .row _,_,h=>h
 | .ptr _ _,_,h=>h
 | .pr _ _ _,_,h=>h
 | .pd _ _,_,h=>h
 | .clo _ _,_,h=>h
 | .sub _ _ _,_,h=>h
theorem X5:∀(xs:List AV) (us:List Value),Qm w en I xs us->Qm w en I (denL xs) us
 | [],_,h=>h
 | x::xs,us,h=>by
  obtain⟨u,us',h1,h2,h3⟩:=h
  exact⟨u,us',h1,AV.shows_den x u h2,X5 xs us' h3⟩
end
end
end
section

def AO.den:AO->AO
 | .row e es dp=>.row e es dp
 | .box e cs=>.box e (denL cs)
theorem AO.den_isRow(x:AO):x.den.isRow=x.isRow:=by cases x <;> rfl
theorem AO.den_lens(x:AO):x.den.lens=x.lens:=by cases x <;> rfl
theorem AO.den_deep(x:AO):x.den.deep=x.deep:=by cases x <;> rfl
def AS.dena(σ:AS):AS:={ σ with sl:=σ.sl.map fun y=>(y.1,y.2.den),ob:=σ.ob.map fun y=>(y.1,y.2.den) }
def Ent.den(x:Ent):Ent:={ x with ao:=x.ao.den }
theorem Qm7(t:Nat):∀(l:List (Nat×AV)),look (l.map fun y=>(y.1,y.2.den)) t=(look l t).den
 | []=>rfl
 | (s,v)::l=>by
  simp only[Xat,Q1]
  split
  ·rfl
  ·exact Qm7 t l
theorem J2.dena{X:Cx}{σ:AS}{a:Act}{w:World}{en:List Ent}(h:J2 X σ a w en):J2 X σ.dena a w (en.map Ent.den):=by
 have m:=h.mem
 have f:∀(z:Ent) (b:Nat),z.den.hd b↔z.hd b:=fun z b=>by
  unfold Ent.hd
  rw[show z.den.ao.deep=z.ao.deep from AO.den_deep z.ao]
  try exact Iff.rfl
 have k:∀b,IM X en w b->IM X (en.map Ent.den) w b:=fun b hb=>⟨hb.1,hb.2.1,fun y g=>by
  obtain⟨z,i,rfl⟩:=Xaf.1 g
  exact fun h=>hb.2.2 z i ((f z b).1 h)⟩
 have he:∀x∈en,∃y∈en.map Ent.den,Like x y:=fun x hx=>⟨x.den,Xaf.2 ⟨x,hx,rfl⟩,rfl,rfl,AO.den_isRow _,AO.den_lens _⟩
 have l:∀(x:AV) (u:Value),x.shows w en (IM X en w) u->x.den.shows w (en.map Ent.den) (IM X (en.map Ent.den) w) u:=fun x u hx=>
  AV.shows_den x u (AV.shows_mono (Xaj _) (fun _ _=>rfl) k he hx)
 refine⟨⟨m.os,m.tape,m.output,m.size,m.old,?_,?_,?_,?_,?_⟩,?_,h.defers,h.size,fun t=>?_⟩
 ·have:(en.map Ent.den).map Ent.nm=en.map Ent.nm:=by simp only[XaV];rfl
  rw[this]
  exact m.names
 ·exact Xa1 _ (fun x y hxy b h1 h2=>hxy b ((f x b).1 h1) ((f y b).1 h2)) m.blks
 ·intro y g
  obtain⟨z,i,rfl⟩:=Xaf.1 g
  have c:=m.ok z i
  unfold EntOk at c
  split at c
  ·rename_i e es dp d
   obtain⟨s,us,n,o,p,r,v,k5,k6,k7⟩:=c
   unfold EntOk
   simp only[Ent.den,d,AO.den]
   exact⟨s,us,n,o,p,r,v,fun hd b hb=>k b (k5 hd b hb),k6,k7⟩
  ·rename_i e cs d
   obtain⟨n,q,j,o,p,r,v⟩:=c
   unfold EntOk
   simp only[Ent.den,d,AO.den]
   refine⟨n,q,j,o,p,r,X5 cs _ ?_⟩
   exact Qfj (Xaj _) (fun _ _=>rfl) k he v
 ·refine Xa1 _ (fun x y hxy h1 h2=>?_) m.apart
  exact hxy (by rw[<-AO.den_deep];exact h1) (by rw[<-AO.den_deep];exact h2)
 ·intro y g
  obtain⟨z,i,rfl⟩:=Xaf.1 g
  exact m.fix z i
 ·have e1:(en.map Ent.den).map Ent.key=(en.map Ent.key).map fun y=>(y.1,y.2.den):=by simp only[XaV];rfl
  rw[e1]
  exact h.ob.map _
 ·simp only[AS.dena,Qm7]
  exact l _ _ (h.slots t)
section
variable {X:Cx} {σ:AS} {Q:Exit->AS->Prop}
theorem QA{c:Code}(h:AWp X c Q σ.dena):AWp X c Q σ:=fun a w ⟨_,hr⟩=>h a w ⟨_,hr.dena⟩
end
section
variable {X:Cx} {σ σ':AS} {o:Oper}
theorem QsR(hp:QiN o.op=true)(h:aopV X o σ=some σ'):∃t v,o.dst=some t/\σ'=σ.put t v/\Nat.blt t σ.nt=true/\PY X o σ v:=by
 cases g:o.dst with
 | none=>rw[aopV,g]at h;cases h
 | some t=>
  unfold QiN at hp
  split at hp
  ·rename_i x a
   rw[aopV,g,a]at h
   obtain⟨rfl,b⟩:=QJ h
   exact⟨t,_,rfl,rfl,b,Qwi a rfl⟩
  ·rename_i T x f a
   rw[aopV,g,a]at h
   dsimp only at h
   split at h
   ·rename_i ti _
    split at h
    ·rename_i m ft k
     split at h
     ·rename_i tf _
      cases d:Nat.beq tf.size 0 with
      | true=>rw[d]at h;cases h
      | false=>
       rw[d,cond_false]at h
       split at h
       ·rename_i p i c
        obtain⟨rfl,b⟩:=QJ h
        exact⟨t,_,rfl,rfl,b,Qhu (ti:=ti) (tf:=tf) (v:=.ptr p i) a k d c rfl⟩
       ·rename_i p i j c
        obtain⟨rfl,b⟩:=QJ h
        exact⟨t,_,rfl,rfl,b,Qhu (ti:=ti) (tf:=tf) (v:=.pr p i j) a k d c rfl⟩
       ·rename_i e i c
        obtain⟨rfl,b⟩:=QJ h
        exact⟨t,_,rfl,rfl,b,Qhu (ti:=ti) (tf:=tf) (v:=.pd e i) a k d c rfl⟩
       ·cases h
     ·cases h
    ·cases h
   ·cases h
  ·cases hp
end
section
variable {X:Cx} {l:List Oper} {N:AS->Prop} {σ σ':AS} {f:Nat} {ls:List Bool}
theorem Qws{i:Nat}{o:Oper}{ls':List Bool}(hi:QeR l (rdy l ls)=some (i,o))(hp:QiN o.op=true)(ha:aopV X o σ=some σ')(hs:Region.noSelect l.toArray=true)(hf:Region.free .any l.toArray ls.toArray i=true)
  (hl:QcZ (ls.set i true) some=some ls') (hK:EnC X l N f ls' σ'):EnC X l N (f+1) ls σ:=by
 obtain⟨t,v,a,b,c,d⟩:=QsR hp ha
 subst b
 exact QwZ hi a c hs hf hl d hK
end

def Qzl(X:Cx)(o:Oper)(σ:AS):Option AS:=
 match o.dst with
 | some t=>match o.op with
  | .field T x f=>match X.tt T with
   | some ti=>match Vv ti.desc f with
    | some (off,ft)=>match X.tt ft with
     | some tf=>match σ.ev x with
      | .agg xs=>bif J6 tf.desc then Zf ((xs.drop off).take tf.size) (fun ys=>vput σ t (.agg ys)) else(match xs[off]? with
       | some v=>vput σ t v
       | none=>none)
      | _=>none
     | none=>none
    | none=>none
   | none=>none
  | _=>none
 | none=>none

theorem QcV{P:Program}{o:Oper}{f:FuncId}{x:Operand}{cs:List Value}{as:Array Operand}{ats:Array TypeId}(ho:o.op=.call { callee:=.value x,args:=as,argTypes:=ats })(a:Act)(hv:a.eval x=.func (.func f) #[] cs.toArray)(w:World) :
  (execOp a.eval o).run P w=(callFunc f ((as.toList.map a.eval)++cs).toArray).run P w:=by
 have e:as.map a.eval++cs.toArray=((as.toList.map a.eval)++cs).toArray:=by cases as;simp
 simp only[execOp,ho,resolve,hv,<-e]
 simp[Deferred.ofValue,invoke]
section
variable {X:Cx} {σ:AS} {o:Oper} {K:AS->Prop} {t:Nat}
end

mutual
def AV.fzb(p:Nat)(ds:List D):AV->AV
 | .ptr o off=>bif Nat.beq o p then .pd ds off else .ptr o off
 | .row o=>bif Nat.beq o p then .any else .row o
 | .pr o i off=>bif Nat.beq o p then .any else .pr o i off
 | .agg xs=>.agg (fzbL p ds xs)
 | .tup xs=>.tup (fzbL p ds xs)
 | .clo g xs=>.clo g (fzbL p ds xs)
 | .sub o i j=>bif Nat.beq o p then .any else .sub o i j
 | x=>x
def fzbL(p:Nat)(ds:List D):List AV->List AV
 | []=>[]
 | x::xs=>x.fzb p ds::fzbL p ds xs
end
def AO.fzb(p:Nat)(ds:List D):AO->AO
 | .box e cs=>.box e (fzbL p ds cs)
 | x=>x
def AS.fzb(σ:AS)(p:Nat)(ds:List D):AS:=⟨σ.nt,σ.sl.map fun y=>(y.1,y.2.fzb p ds),(Y5 p σ.ob).map fun y=>(y.1,y.2.fzb p ds)⟩
theorem AO.fzb_isRow(p:Nat)(ds:List D)(x:AO):(x.fzb p ds).isRow=x.isRow:=by cases x <;> rfl
theorem AO.fzb_lens(p:Nat)(ds:List D)(x:AO):(x.fzb p ds).lens=x.lens:=by cases x <;> rfl
theorem AO.fzb_deep(p:Nat)(ds:List D)(x:AO):(x.fzb p ds).deep=x.deep:=by cases x <;> rfl
section
variable {w:World} {en en':List Ent} {I I':Nat->Prop} {p:Nat} {ds:List D}
mutual
theorem AV.shows_fzb(hI:∀b,I b->I' b)(hp:∀x∈en,x.nm=p->∀g,blk x.val=some g->∃us F,repL w ds us F/\(∀j v,us[j]?=some v->w.cell? ⟨g,j,none⟩=some v)/\I' g/\∀c∈F,I' c)(he:∀x∈en,x.nm≠p->∃y∈en',Like x y):∀(x:AV) (u:Value),x.shows w en I u->(x.fzb p ds).shows w en' I' u
 | .any,_,_=>trivial
 | .d x,u,h=>by
  obtain⟨F,h1,h2⟩:=h
  exact⟨F,h1,fun b hb=>hI b (h2 b hb)⟩
 | .nil,_,h=>h
 | .row o,u,h=>by
  obtain⟨x,hx,rfl,h1,rfl⟩:=h
  simp only[AV.fzb]
  by_cases ho:x.nm=p
  ·rw[(Qi _ _).2 ho]
   trivial
  ·rw[Qc3 ho]
   obtain⟨y,hy,l1,l2,l3,l4⟩:=he x hx ho
   exact⟨y,hy,l1,by rw[l3];exact h1,l2.symm⟩
 | .ptr o off,u,h=>by
  obtain⟨x,hx,rfl,h1,g,h2,h3⟩:=h
  simp only[AV.fzb]
  by_cases ho:x.nm=p
  ·rw[(Qi _ _).2 ho]
   obtain⟨us,F,k1,k2,k3,k4⟩:=hp x hx ho g h2
   exact⟨g,0,us,F,by rw[h3];simp,k1,fun j v hj=>by rw[Xa8];exact k2 j v hj,k3,k4⟩
  ·rw[Qc3 ho]
   obtain⟨y,hy,l1,l2,l3,l4⟩:=he x hx ho
   exact⟨y,hy,l1,by rw[l3];exact h1,g,by rw[l2];exact h2,h3⟩
 | .pr o i off,u,h=>by
  obtain⟨x,hx,rfl,h1,g,z,h2,h3,h4,h5⟩:=h
  simp only[AV.fzb]
  by_cases ho:x.nm=p
  ·rw[(Qi _ _).2 ho]
   trivial
  ·rw[Qc3 ho]
   obtain⟨y,hy,l1,l2,l3,l4⟩:=he x hx ho
   exact⟨y,hy,l1,by rw[l3];exact h1,g,z,by rw[l2];exact h2,by rw[l4];exact h3,by rw[l4];exact h4,h5⟩
 | .pd e off,u,h=>by
  obtain⟨b,o,us,F,h1,h2,h3,h4,h5⟩:=h
  exact⟨b,o,us,F,h1,h2,h3,hI b h4,fun c hc=>hI c (h5 c hc)⟩
 | .agg xs,u,h=>by
  obtain⟨us,h1,h2⟩:=h
  exact⟨us,h1,Zt hI hp he xs us h2⟩
 | .tup xs,u,h=>by
  obtain⟨us,h1,h2⟩:=h
  exact⟨us,h1,Zt hI hp he xs us h2⟩
 | .clo g xs,u,h=>by
  obtain⟨us,h1,h2⟩:=h
  exact⟨us,h1,Zt hI hp he xs us h2⟩
 | .sub o i j,u,h=>by
  obtain⟨x,hx,rfl,h1,h2,A,n,c,z,h3,h4,rfl⟩:=h
  simp only[AV.fzb]
  by_cases ho:x.nm=p
  ·rw[(Qi _ _).2 ho]
   trivial
  ·rw[Qc3 ho]
   obtain⟨y,hy,l1,l2,l3,l4⟩:=he x hx ho
   exact⟨y,hy,l1,by rw[l3];exact h1,by rw[l4];exact h2,A,n,c,z,by rw[l2];exact h3,by rw[l4];exact h4,rfl⟩
theorem Zt(hI:∀b,I b->I' b)(hp:∀x∈en,x.nm=p->∀g,blk x.val=some g->∃us F,repL w ds us F/\(∀j v,us[j]?=some v->w.cell? ⟨g,j,none⟩=some v)/\I' g/\∀c∈F,I' c)(he:∀x∈en,x.nm≠p->∃y∈en',Like x y):∀(xs:List AV) (us:List Value),Qm w en I xs us->Qm w en' I' (fzbL p ds xs) us
 | [],_,h=>h
 | x::xs,us,h=>by
  obtain⟨u,us',h1,h2,h3⟩:=h
  exact⟨u,us',h1,AV.shows_fzb hI hp he x u h2,Zt hI hp he xs us' h3⟩
end
end
theorem QlM(p:Nat)(ds:List D):∀(sl:List (Nat×AV)) (t:Nat),look (sl.map fun y=>(y.1,y.2.fzb p ds)) t=(look sl t).fzb p ds
 | [],_=>rfl
 | (k,x)::l,t=>by
  rw[Xat,Q1,Q1,QlM p ds l t]
  split <;> rfl
theorem J2.fzb{X:Cx}{σ:AS}{a:Act}{w:World}{en:List Ent}(h:J2 X σ a w en){p:Nat}{e:TypeId}{cs:List AV}{ds:List D}(hp:Qn σ.ob p=some (.box e cs))(hds:WU cs=some ds) :
  J2 X (σ.fzb p ds) a w ((en.filter fun y=>y.nm != p).map fun y=>{ y with ao:=y.ao.fzb p ds }):=by
 have m:=h.mem
 let g:Ent->Ent:=fun y=>{ y with ao:=y.ao.fzb p ds }
 have f:∀{y:Ent},y∈(en.filter fun y=>y.nm != p).map g->∃z∈en,z.nm≠p/\y=g z:=by
  intro y i
  simp only[Xaf,Xay,bne_iff_ne]at i
  obtain⟨z,⟨r,u⟩,rfl⟩:=i
  exact⟨z,r,u,rfl⟩
 obtain⟨y0,an,ac,ab⟩:=h.ent hp
 have k:∀(z:Ent) (b:Nat),(g z).hd b↔z.hd b:=fun z b=>by
  unfold Ent.hd
  rw[show(g z).ao.deep=z.ao.deep from AO.fzb_deep p ds z.ao]
  try exact Iff.rfl
 have hI:∀b,Imm X.w0 X.Z X.O en w b->Imm X.w0 X.Z X.O ((en.filter fun y=>y.nm != p).map g) w b:=fun b hb=>⟨hb.1,hb.2.1,fun y i=>by
  obtain⟨z,o,_,rfl⟩:=f i
  exact fun h=>hb.2.2 z o ((k z b).1 h)⟩
 have aa:∀x∈en,x.nm=p->∀q,blk x.val=some q->∃us F,repL w ds us F/\(∀j v,us[j]?=some v->w.cell? ⟨q,j,none⟩=some v)/\Imm X.w0 X.Z X.O ((en.filter fun y=>y.nm != p).map g) w q/\∀c∈F,Imm X.w0 X.Z X.O ((en.filter fun y=>y.nm != p).map g) w c:=fun x hx hn q hq=>by
  have:=m.ent_unique hx an (hn.trans ac.symm)
  subst this
  have d:=m.ok x hx
  obtain⟨l1,l2⟩:=d.lt hq
  unfold EntOk at d
  rw[ab]at d
  obtain⟨k0,q',l,k1,k2,k3,k4⟩:=d
  have e1:q'=q:=by
   rw[k1]at hq
   injection hq
  subst e1
  obtain⟨F,f1,f2⟩:=Wu hds k4
  refine⟨l.toList,F,f1,fun j v hj=>?_,⟨.inr l2,l1,fun y i=>?_⟩,fun c hc=>hI c (f2 c hc)⟩
  ·simp only[World.cell?,k3]
   simpa using hj
  ·obtain⟨z,o,ad,rfl⟩:=f i
   exact fun hq'=>m.hd_ne hx o (fun e=>ad (e.symm.trans hn)) (.inl hq) ((k z _).1 hq')
 have hl:∀x∈en,x.nm≠p->∃y∈(en.filter fun y=>y.nm != p).map g,Like x y:=fun x hx hn=>
  ⟨g x,by simp only[Xaf,Xay,bne_iff_ne];exact⟨x,⟨hx,hn⟩,rfl⟩,rfl,rfl,AO.fzb_isRow p ds x.ao,AO.fzb_lens p ds x.ao⟩
 refine⟨⟨m.os,m.tape,m.output,m.size,m.old,?_,?_,?_,?_,fun y i=>by
  obtain⟨z,o,_,rfl⟩:=f i
  exact m.fix z o⟩,?_,h.defers,h.size,fun t=>?_⟩
 ·have:((en.filter fun y=>y.nm != p).map g).map Ent.nm=(en.filter fun y=>y.nm != p).map Ent.nm:=by simp only[XaV];rfl
  rw[this]
  exact Xbu (XbH _ XaE) m.names
 ·exact Xa1 _ (fun x y hxy b r u=>hxy b ((k x b).1 r) ((k y b).1 u)) (Xa4 XaE m.blks)
 ·intro y i
  obtain⟨z,o,ad,rfl⟩:=f i
  have d:=m.ok z o
  unfold EntOk at d
  split at d
  ·rename_i e' au aq n
   obtain⟨s,us,k0,k1,k2,k3,k4,k5,k6,k7⟩:=d
   unfold EntOk
   simp only[g,n,AO.fzb]
   exact⟨s,us,k0,k1,k2,k3,k4,fun hd b hb=>hI b (k5 hd b hb),k6,k7⟩
  ·rename_i e' al n
   obtain⟨k0,q,l,k1,k2,k3,k4⟩:=d
   unfold EntOk
   simp only[g,n,AO.fzb]
   exact⟨k0,q,l,k1,k2,k3,Zt hI aa hl al _ k4⟩
 ·exact Xa1 _ (fun x y hxy r u=>hxy (by rw[<-AO.fzb_deep p ds];exact r) (by rw[<-AO.fzb_deep p ds];exact u)) (Xa4 XaE m.apart)
 ·have e1:((en.filter fun y=>y.nm != p).map g).map Ent.key=(Y5 p (en.map Ent.key)).map fun y=>(y.1,y.2.fzb p ds):=by
   simp only[Y5,XbP,XaV]
   rfl
  rw[e1]
  exact(h.ob.filter _).map _
 ·simp only[AS.fzb,QlM]
  exact AV.shows_fzb hI aa hl _ _ (h.slots t)
section
variable {X:Cx} {σ:AS} {Q:Exit->AS->Prop}
theorem Qwu(p:Nat){e:TypeId}{cs:List AV}{ds:List D}{c:Code}(hp:Qn σ.ob p=some (.box e cs))(hds:WU cs=some ds)(h:AWp X c Q (σ.fzb p ds)):AWp X c Q σ:=fun a w ⟨_,hr⟩=>h a w ⟨_,hr.fzb hp hds⟩
theorem Quc(p:Nat){e:TypeId}{cs:List AV}{ds:List D}{K:AS->Prop}{o:Oper}(hp:Qn σ.ob p=some (.box e cs))(hds:WU cs=some ds)(h:OpOk X o (σ.fzb p ds) K):OpOk X o σ K:=fun a w ⟨_,hr⟩=>h a w ⟨_,hr.fzb hp hds⟩
end
end
section
def AS.okI(σ:AS):AV->Bool
 | .row p=>match Qn σ.ob p with
  | some (.row _ _ dp)=>!dp
  | _=>false
 | _=>true
section
variable {X:Cx} {σ:AS} {o:Oper} {K:AS->Prop} {t:Nat}
theorem QfW{a:Act}{w:World}{en:List Ent}(h:J2 X σ a w en){v:AV}{es:List (List D)}{u:Value}(hv:σ.els v=some es)(hI:σ.okI v=true)(hs:v.shows w en (IM X en w) u){z:Nat}(hz:lenE es z) :
  ∃A cap us F,u=.slice A es.length cap/\Rd w z A es.length cap us/\repE w es us F/\∀b∈F,IM X en w b:=by
 cases v with
 | d x=>
  cases x with
  | sl o=>
   simp only[AS.els,Xan]at hv
   subst hv
   obtain⟨F,h1,h2⟩:=hs
   obtain⟨A,cap,us,F',k1,i,k3,n⟩:=QoJ h1 hz
   exact⟨A,cap,us,F',k1,i,k3,fun b hb=>h2 b (n b hb)⟩
  | _=>cases hv
 | nil=>
  simp only[AS.els,Xan]at hv
  subst hv
  rw[show u=.slice none 0 0 from hs]
  exact⟨none,0,[],[],rfl,⟨by simp,Xaj _,⟨by omega,fun _=>rfl⟩,fun hn=>absurd hn (by simp)⟩,⟨rfl,rfl⟩,by simp⟩
 | row p=>
  simp only[AS.els]at hv
  split at hv
  ·rename_i e o dp t
   injection hv with hv
   subst hv
   obtain⟨y,hy,r,q⟩:=h.ent t
   obtain⟨y',m,e1,e2,rfl⟩:=hs
   have:=h.mem.ent_unique m hy (e1.trans r.symm)
   subst this
   have f:=h.mem.ok y' m
   unfold EntOk at f
   rw[q]at f
   obtain⟨z0,us,k0,k1,i,k3,n,k5,k6,k7⟩:=f
   have l:=Ju n hz
   obtain⟨A,c,s,g2,g3,g4,g5⟩:=J3 i
   refine⟨A,c,us,y'.fs,s,⟨l,g2,⟨by unfold maxLen at g3;omega,g4⟩,fun hn=>?_⟩,n,k5 (by simpa [AS.okI,t] using hI)⟩
   obtain⟨g,hg⟩:=g5 hn
   subst hg
   refine⟨g,0,rfl,fun j v hj=>?_⟩
   rw[s]at i
   have k:=(List.getElem?_eq_some_iff.1 hj).1
   rw[i.1]at k
   rw[Xa8,i.cellAt j k]
   exact hj
  ·cases hv
 | _=>cases hv
end
theorem Qiw{w:World}{ds el:List D}{us vs:List Value}{F1 F2:List Nat}(h:repL w el us F1)(h':repL w ds vs F2)(k:Nat):∃F,repL w (splice el k ds) (splice us k vs) F/\∀b∈F,b∈F1\/b∈F2:=by
 have f:=QS h'
 unfold splice
 obtain⟨G1,d,a⟩:=Qe8 h k
 obtain⟨G2,e,c⟩:=XK h (k+ds.length)
 rw[f]
 refine⟨_,YG (YG d h') e,fun b hb=>?_⟩
 simp only[Xag]at hb
 rcases hb with (hb|hb)|hb
 ·exact .inl (a b hb)
 ·exact .inr hb
 ·exact .inl (c b hb)
theorem QiW{w:World}{z:Nat}:∀{es:List (List D)} {us:List Value} {F F2:List Nat} {i off:Nat} {el ds:List D} {vs:List Value},repE w es us F->(∀e∈es,e.length=z)->es[i]?=some el->repL w ds vs F2->off+ds.length<=z->
  ∃G,repE w (es.set i (splice el off ds)) (splice us (i*z+off) vs) G/\∀b∈G,b∈F\/b∈F2
 | [],us,F,F2,i,off,el,ds,vs,_,_,hi,_,_=>by simp at hi
 | e::es,us,F,F2,i,off,el,ds,vs,h,hz,hi,h',hle=>by
  obtain⟨u1,u2,Fa,Fb,rfl,rfl,k1,k2⟩:=h
  have hl1:u1.length=z:=by rw[QS k1];exact hz e Xac
  have hvl:=QS h'
  cases i with
  | zero=>
   simp only[List.getElem?_cons_zero,Xan]at hi
   subst hi
   rw[Xcf,Xbq,Xa8,QdU (by omega)]
   obtain⟨G,g1,g2⟩:=Qiw k1 h' off
   refine⟨G++Fb,⟨_,_,G,Fb,rfl,rfl,g1,k2⟩,fun b hb=>?_⟩
   rcases Xag.1 hb with hb|hb
   ·rcases g2 b hb with h|h
    ·exact .inl (Xau _ h)
    ·exact .inr h
   ·exact .inl (Xax _ hb)
  | succ i=>
   simp only[List.getElem?_cons_succ]at hi
   have e1:(i+1)*z+off=u1.length+(i*z+off):=by rw[hl1,Xa2];omega
   rw[Xcz,e1,QcO]
   obtain⟨G,g1,g2⟩:=QiW k2 (fun x hx=>hz x (Xae _ hx)) hi h' hle
   refine⟨Fa++G,⟨_,_,Fa,G,rfl,rfl,k1,g1⟩,fun b hb=>?_⟩
   rcases Xag.1 hb with hb|hb
   ·exact .inl (Xau _ hb)
   ·rcases g2 b hb with h|h
    ·exact .inl (Xax _ h)
    ·exact .inr h
section
variable {X:Cx} {σ:AS} {o:Oper} {K:AS->Prop} {t:Nat}
theorem Qck{a:Act}{w:World}{en:List Ent}(h:J2 X σ a w en){p:Nat}{e:TypeId}{es:List (List D)}{dp:Bool}[te:TI X.P e](hp:Qn σ.ob p=some (.row e es dp)) :
  ∃y∈en,y.nm=p/\y.ao=.row e es dp/\∃A c,y.val=.slice A es.length c/\es.length<=c/\(A=none->c=0)/\(0<es.length->∃g,A=some ⟨g,0,none⟩)/\∀l∈y.ao.lens,l=te.size:=by
 obtain⟨y,j,i,d⟩:=h.ent hp
 have b:=h.mem.ok y j
 unfold EntOk at b
 rw[d]at b
 obtain⟨z,us,k,k1,t,u,_⟩:=b
 have s:z=te.size:=by rw[te.sized]at k;simpa using k.symm
 subst s
 obtain⟨A,c,n,o,g3,q,r⟩:=J3 t
 refine⟨y,j,i,d,A,c,n,o,q,r,fun l hl=>?_⟩
 rw[d]at hl
 obtain⟨m,f,rfl⟩:=Xaf.1 hl
 exact u m f
end
theorem QnG{P:Program}{f:FuncId}{e:TypeId}{es es':List (List D)}{d:Bool}{z:Nat}(hz:(P.info? e).map (·.size)=some z)(hfl:WC es=true)(hfl':WC es'=true)(hl:es'.map List.length=es.map List.length)(hent:∀us w',(callFunc f us).run P w'=.ok (.enter f us) w')
  (h:∀(w:World) (v:Value) (us:List Value),w.ownsRow 0 e z v es.length us->repE w es us []->Calls P f #[v] w fun en w'=>en=.returned (.tuple #[])/\w.grownBy w' (blk v)/\∃us',w'.ownsRow 0 e z v es.length us'/\repE w' es' us' []) :
  MCalls P f [.row 1000000] [(1000000,.row e es d)] (fun _:Unit=>True) (fun _=>[]) (fun _=>[(1000000,.row e es' d)]) (fun _=>[]):=by
 have k:es'.length=es.length:=by have:=congrArg List.length hl;simpa using this
 refine⟨⟨⟨.inr (.inl hfl),trivial⟩,fun _ _=>⟨⟨⟨rfl,rfl,hl.symm⟩,trivial⟩,.inr (.inl hfl'),trivial⟩⟩,?_⟩
 intro w Zp eh us hm a r
 obtain⟨x,rfl⟩:∃x,eh=[x]:=by
  cases eh with
  | nil=>exact absurd (congrArg List.length a) (by simp)
  | cons x l=>
   cases l with
   | nil=>exact⟨x,rfl⟩
   | cons y l=>exact absurd (congrArg List.length a) (by simp)
 simp only[Xat,Xbl,Ent.key,Xbz,XbT,and_true]at a
 obtain⟨al,s⟩:=a
 obtain⟨v,us',rfl,hv,m⟩:=r
 have g:us'=[]:=m
 subst g
 obtain⟨y,hy,an,ao,t⟩:=hv
 have u:y=x:=by simpa using hy
 subst u
 have c:=hm.ok y Xac
 have ad:=c
 unfold EntOk at c
 rw[s]at c
 obtain⟨z',vs,k0,k1,k2,k3,k4,k5,k6,k7⟩:=c
 have aa:z'=z:=by rw[hz]at k0;simpa using k0.symm
 subst aa
 have p:=YK k4 (Ys hfl)
 rw[p]at k4
 subst t
 refine⟨fun w'=>hent _ w',(h w y.val vs k2 k4).mono fun en w' ⟨he,hg,vs',ho,hr⟩=>⟨(),.tuple #[],[⟨1000000,.row e es' d,y.val,[]⟩],⟨trivial,rfl⟩,he,⟨hg.os,hg.tape,hg.output,hg.size,fun b hb hO=>?_,by simp,by simp,fun q n=>?_,by simp,fun q n=>?_⟩,?_,[],rfl,rfl⟩⟩
 ·exact hg.block b hb fun e=>hO ⟨y,Xac,.inl e.symm⟩
 ·have i:q=⟨1000000,.row e es' d,y.val,[]⟩:=by simpa using n
  subst i
  unfold EntOk
  refine⟨z',vs',hz,k1,by rw[k];exact ho,fun el hel=>?_,hr,by simp,k6,fun _=>⟨by simp,by simp,NstL.nilE hr⟩⟩
  have h1:el.length∈es.map List.length:=by rw[<-hl];exact Xaf.2 ⟨el,hel,rfl⟩
  obtain⟨o,j,e1⟩:=Xaf.1 h1
  rw[<-e1]
  exact k3 o j
 ·have i:q=⟨1000000,.row e es' d,y.val,[]⟩:=by simpa using n
  subst i
  intro _ q n aj
  have:q=y:=by simpa using n
  rw[this]
 ·exact Xbv _
theorem Qfu(w:World):∀(l:List Int),repE w (intE l) (l.map (Value.int .i64)) []
 | []=>⟨rfl,rfl⟩
 | x::l=>⟨[.int .i64 x],l.map (Value.int .i64),[],[],rfl,rfl,⟨.int .i64 x,[],[],[],rfl,rfl,⟨rfl,rfl⟩,rfl,rfl⟩,Qfu w l⟩
theorem Vt{w:World}:∀{l:List Int} {us:List Value} {F:List Nat},repE w (intE l) us F->us=l.map (Value.int .i64)
 | [],us,F,h=>h.1
 | b::l,us,F,h=>by
  obtain⟨u1,u2,F1,F2,rfl,rfl,k1,k2⟩:=h
  obtain⟨u,us',G1,G2,rfl,rfl,⟨rfl,rfl⟩,k3⟩:=k1
  rw[k3.1,Vt k2]
  rfl
section
variable {X:Cx} {σ:AS} {o:Oper} {K:AS->Prop} {t:Nat}
theorem Qwb{p:Nat}{ao ao':AO}(hp:Qn σ.ob p=some ao)(hd:o.dst=none)(hrow:ao'.isRow=ao.isRow)(hlens:ao'.lens=ao.lens)(hdeep:ao'.deep=ao.deep)
    (h:∀a w en y,J2 X σ a w en->y∈en->y.nm=p->y.ao=ao->EntOk X.P (Frs X.w0 X.O) w en (IM X en w) y->∃(g:Nat) (cur:Array Value),blk y.val=some g/\(execOp a.eval o).run X.P w=.ok (.value (.tuple #[])) (w.setRow g cur)/\
      ((∀(z:AV) (q:Value),z.shows w en (IM X en w) q->z.shows (w.setRow g cur) (⟨p,ao',y.val,y.fs⟩::JM (fun _=>true) p en) (IM X (⟨p,ao',y.val,y.fs⟩::JM (fun _=>true) p en) (w.setRow g cur)) q)->
       (∀b,IM X en w b->IM X (⟨p,ao',y.val,y.fs⟩::JM (fun _=>true) p en) (w.setRow g cur) b/\Same w (w.setRow g cur) b)->
        EntOk X.P (Frs X.w0 X.O) (w.setRow g cur) (⟨p,ao',y.val,y.fs⟩::JM (fun _=>true) p en) (IM X (⟨p,ao',y.val,y.fs⟩::JM (fun _=>true) p en) (w.setRow g cur)) ⟨p,ao',y.val,y.fs⟩))
    (hK:K ⟨σ.nt,σ.sl,(p,ao')::Y5 p σ.ob⟩):OpOk X o σ K:=by
  intro a w s next Q r
  obtain⟨en,f⟩:=s
  obtain⟨y,i,c,d⟩:=f.ent hp
  obtain⟨g,cur,k,l,m⟩:=h a w en y f i c d (f.mem.ok y i)
  have j:Qfw X.P X.w0 X.Z X.O en w (w.setRow g cur) p ⟨p,ao',y.val,y.fs⟩ (fun _=>true):=
    ⟨f.mem,fun _ _=>rfl,fun _ x hx e=>by
        have:=f.mem.ent_unique hx i (e.trans c.symm)
        subst this
        exact⟨e.symm,rfl,by rw[d];exact hrow,by rw[d];exact hlens⟩,rfl,rfl,rfl,by simp,
      fun b hb hno=>setRow_other w g b cur (fun e=>hno y i c (e▸k)),fun b hb=>.inr ⟨y,i,c,by
      rcases hb with hb|⟨hd,hb⟩
      · exact .inl hb
      · exact .inr ⟨by rw[d,<-hdeep];exact hd,hb⟩⟩,rfl,c▸f.mem.fix y i⟩
  have n:=f.swap_keep j (m (fun z q hz=>by have:=j.shows hz;rwa [AV.cut_true]at this) (fun b hb=>⟨j.imm hb,j.same hb⟩)) (fun hd z hz hzn hdz b hb=>by
    exact f.mem.apart_ne i hz (fun e=>hzn (e.symm.trans c)) (by rw[d,<-hdeep];exact hd) hdz hb)
  unfold Oper.wp
  rw[l,Oper.upon_value,hd]
  exact r _ _ _ hK ⟨_,n⟩
theorem Qd2{T e:TypeId}{x:Operand}{p i j:Nat}{es:List (List D)}{dp:Bool}{zd:List D}[te:TI X.P e](ho:o.op=.call { callee:=.builtin .clear,args:=#[x],argTypes:=#[T] })(hd:o.dst=none)(hT:JQ X T=some e)(hx:σ.ev x=.sub p i j)(hp:Qn σ.ob p=some (.row e es dp))
  (hk:Zi te) (hz1:te.zero.cells.toList.all Value.oneCell'=true) (hzd:(WU (Z6 te.zero)).bind (fun l=>Xq l some)=some zd) (hfz:zd.all D.flat1=true) (hlz:Nat.beq zd.length te.size=true) (hfl:WC es=true) (hij:i<j)
  (hK:K ⟨σ.nt,σ.sl,(p,.row e (es.take i++(List.replicate (j-i) zd++es.drop j)) dp)::Y5 p σ.ob⟩):OpOk X o σ K:=by
 have au:WU (Z6 te.zero)=some zd:=by
  cases hz:WU (Z6 te.zero) with
  | none=>rw[hz]at hzd;cases hzd
  | some l=>rw[hz,Xbi,Qbu]at hzd;exact hzd
 have bf:∀w,(zeroValue e).run X.P w=.ok te.zero w:=fun w=>by
  obtain⟨q,q1,q2,_⟩:=te.parts
  simp[zeroValue,typeInfo,q1,q2]
 have av:zd.length=te.size:=(Qi _ _).1 hlz
 have bm:=JK hk.pos
 have be:te.zero.cells.size=te.size:=(Qi _ _).1 hk.zero
 intro a w hr
 obtain⟨bt,h0⟩:=id hr
 obtain⟨y0,ba,f1,f2,f3,_,_,_,_,f4,f5,_⟩:=QZ h0 hx
 obtain⟨y1,bb,g1,g2,_,_,_,_,_,_,g3⟩:=Qck h0 hp
 have:=h0.mem.ent_unique ba bb (f1.trans g1.symm)
 subst this
 rw[g2]at f3
 simp only[AO.lens,XaB]at f3
 have r:∀y∈es,y.length=te.size:=fun y u=>g3 _ (by rw[g2];exact Xaf.2 ⟨y,u,rfl⟩)
 refine Qwb (ao':=.row e (es.take i++(List.replicate (j-i) zd++es.drop j)) dp) hp hd rfl ?_ rfl (fun a w en z h1 hz hzn hza hok=>?_) hK a w hr
 ·simp only[AO.lens]
  refine List.ext_getElem? fun k=>?_
  have ac:∀(l:List (List D)),(∀y∈l,y.length=te.size)->∀k,(l.map List.length)[k]?=if k<l.length then some te.size else none:=fun l hl k=>by
   rw[List.getElem?_map]
   split
   ·rename_i hk
    rw[List.getElem?_eq_getElem hk,XaP,hl _ (Xbk hk)]
   ·rename_i hk
    rw[List.getElem?_eq_none (by omega)]
    rfl
  rw[ac _ r,ac]
  ·congr 1
   simp only[Xaa,Xah,Xbd,XaL,eq_iff_iff]
   omega
  ·intro y u
   rcases Xag.1 u with h|h
   ·exact r _ (XaC h)
   ·rcases Xag.1 h with h|h
    ·rw[Xby h];exact av
    ·exact r _ (XaN h)
 ·have bl:=hok
  unfold EntOk at hok
  rw[hza]at hok
  obtain⟨s,us,k0,k1,k2,k3,k4,k5,k6,k7⟩:=hok
  have a8:s=te.size:=by rw[te.sized]at k0;simpa using k0.symm
  subst a8
  obtain⟨z',bc,e1,e2,e3,A',n,c',z0,e4,e5,e6⟩:=QZ h1 hx
  have:=h1.mem.ent_unique bc hz (e1.trans hzn.symm)
  subst this
  rcases k2.2 with ⟨hv,hn0⟩|⟨g,cap,cur,hv,hbg,hg,hnc,hcm,hcs,htake⟩
  ·omega
  ·rw[hv]at e4
   injection e4 with e7 e8 e9
   subst e7;subst e9
   have bd:z0=te.size:=by
    obtain⟨y,u⟩:∃y,y∈es:=by
     cases es with
     | nil=>simp at f3;omega
     | cons q l=>exact⟨q,Xac⟩
    rw[<-e5 y.length (by rw[hza];exact Xaf.2 ⟨y,u,rfl⟩),r y u]
   subst bd
   have hc:¬cap=i:=by omega
   have a0:a.eval x=.slice (some ⟨g,0+i*te.size,none⟩) (j-i) (cap-i):=by
    rw[e6,subV,if_neg hc,XaP,Yi]
   have ar:(Builtin.zeroCells te.zero.cells (j-i)).toList=(List.replicate (j-i) te.zero.cells.toList).flatten:=by
    unfold Builtin.zeroCells
    exact Xv te.zero.cells (j-i) (by omega)
   have aa:(List.replicate (j-i) te.zero.cells.toList).flatten.length=(j-i)*te.size:=by
    rw[List.length_flatten,List.map_replicate,List.sum_replicate_nat,XaF,be]
   have b4:j*te.size=i*te.size+(j-i)*te.size:=by rw[<-Xa2];congr 1;omega
   have b2:j*te.size<=cap*te.size:=XaY _ (by omega)
   have a3:∀v∈(List.replicate (j-i) te.zero.cells.toList).flatten,v.oneCell'=true:=fun v hv=>by
    obtain⟨l,hl,aa⟩:=List.mem_flatten.1 hv
    rw[Xby hl]at aa
    exact Xaw.1 hz1 v aa
   have am:=run_storeCells_at X.P g (0+i*te.size) e ((List.replicate (j-i) te.zero.cells.toList).flatten) 0 cur w hg (by rw[aa];omega) a3
   refine⟨g,(cur.toList.take (0+i*te.size+0)++(List.replicate (j-i) te.zero.cells.toList).flatten++cur.toList.drop (0+i*te.size+0+(List.replicate (j-i) te.zero.cells.toList).flatten.length)).toArray,by rw[hv];rfl,?_,fun hT' hIS=>?_⟩
   ·have hu:=QY hT
    have b3:j-i≠0:=by omega
    have ak:(Builtin.clear_ #[T] o.type #[a.eval x]).run X.P w=.ok (.tuple #[]) (w.setRow g (cur.toList.take (0+i*te.size+0)++(List.replicate (j-i) te.zero.cells.toList).flatten++cur.toList.drop (0+i*te.size+0+(List.replicate (j-i) te.zero.cells.toList).flatten.length)).toArray):=by
     rw[a0]
     obtain⟨m,hm⟩:∃m,j-i=m+1:=⟨j-i-1,by omega⟩
     simp only[Builtin.clear_]
     rw[hm]at am ar ⊢
     simp only[List.getElem?_toArray,List.getElem?_cons_zero,Sem.run_bind,run_underlying hu,Result.andThen,bf,ar,am,Sem.run_pure]
    simp only[execOp,ho,resolve,Sem.run_bind,Sem.run_pure,Result.andThen,invoke,builtin,Xbr,Xat,Xbl]
    rw[ak]
   ·have ab:=YK k4 (Ys hfl)
    rw[ab]at k4
    have al:es=es.take i++((es.take j).drop i++es.drop j):=by
     have:(es.take j).take i=es.take i:=by rw[XcB];congr 1;omega
     rw[<-this,<-Xaq,XaK,XaK]
    rw[al]at k4
    obtain⟨u1,cd,F1,F23,a9,aj,r1,r2⟩:=Yw k4
    obtain⟨u2,u3,F2,F3,aq,a4,r3,r4⟩:=Yw r2
    have hF:F1=[]/\F2=[]/\F3=[]:=by
     rw[a4]at aj
     have:=congrArg List.length aj
     simp only[XaA,Xaa]at this
     exact⟨XaD (by omega),XaD (by omega),XaD (by omega)⟩
    obtain⟨rfl,rfl,rfl⟩:=hF
    have ah:u1.length=i*te.size:=by
     rw[Ju r1 (fun x hx=>r x (XaC hx))]
     congr 1
     simp;omega
    have ao:u2.length=(j-i)*te.size:=by
     rw[Ju r3 (fun x hx=>r x (XaC (XaN hx)))]
     congr 1
     simp;omega
    have ap:u3.length=(es.length-j)*te.size:=by
     rw[Ju r4 (fun x hx=>r x (XaN hx))]
     congr 1
     simp
    obtain⟨Fz,aw,b9⟩:=Wu (w:=w) (en:=[]) (I:=fun _=>True) au (Wm te.zero.cells.toList)
    have a5:Fz=[]:=Yk aw (JT hfz)
    subst a5
    have f:(es.take i++(List.replicate (j-i) zd++es.drop j)).length=es.length:=by
     simp only[Xaa,Xah,Xbd,XaL]
     omega
    have ad:cur.toList.take (0+i*te.size+0)++(List.replicate (j-i) te.zero.cells.toList).flatten++cur.toList.drop (0+i*te.size+0+(List.replicate (j-i) te.zero.cells.toList).flatten.length)=u1++((List.replicate (j-i) te.zero.cells.toList).flatten++u3)++cur.toList.drop (es.length*te.size):=by
     have an:es.length*te.size=i*te.size+((j-i)*te.size+(es.length-j)*te.size):=by
      rw[<-Xa2,<-Xa2];congr 1;omega
     have a6:cur.toList=(u1++(u2++u3))++cur.toList.drop (es.length*te.size):=by
      rw[<-aq,<-a9,<-htake,XaK]
     have b1:(u1++(u2++u3)).length=es.length*te.size:=by
      simp only[Xaa,ah,ao,ap,an]
     have ac:∀(a b c d v:List Value),((a++(b++c))++d).take a.length++v++((a++(b++c))++d).drop (a.length+b.length)=a++(v++c)++d:=fun a b c d v=>by
      rw[Xaq a,Xb5,<-Xb4,Xb6,Xaq b,Xb6]
      simp
     have:=ac u1 u2 u3 (cur.toList.drop (es.length*te.size)) (List.replicate (j-i) te.zero.cells.toList).flatten
     rw[<-a6,ah,ao]at this
     rw[aa,Xa8,XbL]
     exact this
    have ae:repE (w.setRow g (cur.toList.take (0+i*te.size+0)++(List.replicate (j-i) te.zero.cells.toList).flatten++cur.toList.drop (0+i*te.size+0+(List.replicate (j-i) te.zero.cells.toList).flatten.length)).toArray) (es.take i++(List.replicate (j-i) zd++es.drop j)) (u1++((List.replicate (j-i) te.zero.cells.toList).flatten++u3)) []:=by
     have q1:=QX (w':=w.setRow g (cur.toList.take (0+i*te.size+0)++(List.replicate (j-i) te.zero.cells.toList).flatten++cur.toList.drop (0+i*te.size+0+(List.replicate (j-i) te.zero.cells.toList).flatten.length)).toArray) (by simp) _ _ _ r1 (by simp)
     have q3:=QX (w':=w.setRow g (cur.toList.take (0+i*te.size+0)++(List.replicate (j-i) te.zero.cells.toList).flatten++cur.toList.drop (0+i*te.size+0+(List.replicate (j-i) te.zero.cells.toList).flatten.length)).toArray) (by simp) _ _ _ r4 (by simp)
     have q2:=WZ (VM (w':=w.setRow g (cur.toList.take (0+i*te.size+0)++(List.replicate (j-i) te.zero.cells.toList).flatten++cur.toList.drop (0+i*te.size+0+(List.replicate (j-i) te.zero.cells.toList).flatten.length)).toArray) (by simp) _ _ _ aw (by simp)) (j-i)
     have:=Yh q1 (Yh q2 q3)
     simpa using this
    unfold EntOk
    refine⟨te.size,u1++((List.replicate (j-i) te.zero.cells.toList).flatten++u3),k0,k1,?_,fun y u=>?_,?_,by rw[ab];simp,k6,fun hd=>⟨by rw[ab];simp,by rw[ab];simp,NstL.nilE ae⟩⟩
    ·have ai:(u1++((List.replicate (j-i) te.zero.cells.toList).flatten++u3)).length=es.length*te.size:=by
      simp only[Xaa,ah,aa,ap]
      rw[<-Xa2,<-Xa2];congr 1;omega
     refine⟨by rw[f];exact ai,.inr ⟨g,cap,_,by rw[hv,f],Xad _,setRow_heap w g cur _ e _ hg,by rw[f];exact hnc,hcm,?_,?_⟩⟩
     ·rw[ad]
      show List.length _=_
      have h4:(cur.toList.drop (es.length*te.size)).length=cap*te.size-es.length*te.size:=by rw[XaL,XaF,hcs]
      have:es.length*te.size<=cap*te.size:=XaY _ hnc
      rw[Xaa,ai,h4]
      omega
     ·rw[ad,f,Xa5 (by omega),<-ai,Xak]
    ·rcases Xag.1 u with h|h
     ·exact r _ (XaC h)
     ·rcases Xag.1 h with h|h
      ·rw[Xby h];exact av
      ·exact r _ (XaN h)
    ·rw[ab]
     exact ae
end
theorem Qgf(t:Nat){X:Cx}{c:Code}{Q:Exit->AS->Prop}{σ:AS}{p:Nat}{e:TypeId}{es:List (List D)}{dp:Bool}(n:Nat)(hv:look σ.sl t=.row p)(hp:Qn σ.ob p=some (.row e es dp))(hn:es.length=n)(h:AWp X c Q (σ.put t (.sub p 0 n))):AWp X c Q σ:=fun a w ⟨en,hr⟩=>by
 refine h a w ⟨en,⟨hr.mem,hr.ob,hr.defers,hr.size,fun s=>?_⟩⟩
 simp only[AS.put,Q1]
 split
 ·rename_i q
  subst q
  have m:=hr.slots t
  rw[hv]at m
  obtain⟨y,g,o,u,v⟩:=m
  obtain⟨y',i,x,d⟩:=hr.ent hp
  have:=hr.mem.ent_unique g i (o.trans x.symm)
  subst this
  have b:=hr.mem.ok y g
  unfold EntOk at b
  rw[d]at b
  obtain⟨z,us,k0,k1,k2,k3,_⟩:=b
  obtain⟨A,j,k,_⟩:=J3 k2
  refine⟨y,g,o,u,⟨Nat.zero_le _,by rw[d];simp[AO.lens,hn]⟩,A,_,j,z,k,fun l hl=>?_,?_⟩
  ·rw[d]at hl
   obtain⟨r,f,rfl⟩:=Xaf.1 hl
   exact k3 r f
  ·rw[v,k,subV,Xbq,hn]
   have:(if j=0 then A else A.map (·.add 0))=A:=by
    split
    ·rfl
    ·cases A with
     | none=>rfl
     | some a=>simp[Addr.add]
   rw[this]
   rfl
 ·exact hr.slots s

section
variable {X:Cx} {σ:AS} {o:Oper} {K:AS->Prop} {t:Nat}
theorem QsF{es:List (List D)}{i:Nat}{el el':List D}(hel:es[i]?=some el)(h:el'.length=el.length):(es.set i el').map List.length=es.map List.length:=by
 rw[Xce,h]
 refine List.ext_getElem? fun k=>?_
 rw[List.getElem?_set]
 split
 ·rename_i a
  subst a
  split
  ·rw[List.getElem?_map,hel];rfl
  ·rename_i a
   rw[List.getElem?_eq_none (by simpa using a)]
 ·rfl
end
end
end Go.Proofs.YtkdniahincpmaaaGreat
