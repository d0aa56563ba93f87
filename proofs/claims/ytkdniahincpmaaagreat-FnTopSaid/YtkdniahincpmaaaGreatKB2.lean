/-
  The walk over abstract states: the call of a function under its contract; nil made an object.
-/
import Derived.Test.YtkdniahincpmaaaGreatKB1
import Derived.Deep.DeepAppendWide
import Derived.Great.BuildSlice
import Derived.Laws.IdiomStrings
import Derived.Laws.BytesString
import Derived.Laws.StructEq
import Derived.Lib.MinMax
set_option maxRecDepth 100000
set_option maxHeartbeats 16000000
namespace Go.Proofs.YtkdniahincpmaaaGreat
open Go Go.RowKit
section

def snap1(ob:List (Nat×AO)):AV->Option AV
 | .sub p i j=>match Qn ob p with
  | some (.row _ es _)=>some (.d (.sl ((es.take j).drop i)))
  | _=>none
 | .d x=>some (.d x)
 | .nil=>some (.d (.sl []))
 | .row p=>match Qn ob p with
  | some (.row _ es _)=>some (.d (.sl es))
  | _=>none
 | _=>none
def Qsp(ob:List (Nat×AO)):List AV->Option (List AV)
 | []=>some []
 | x::xs=>match snap1 ob x with
  | some y=>match Qsp ob xs with
   | some ys=>some (y::ys)
   | none=>none
  | none=>none
def Qs6(ob:List (Nat×AO)):List AV->Option (List D)
 | []=>some []
 | x::xs=>match snap1 ob x with
  | some (.d y)=>match Qs6 ob xs with
   | some ys=>some (y::ys)
   | none=>none
  | _=>none
def Qxi(ob:List (Nat×AO)):AV->Option AV
 | .ptr p 0=>match Qn ob p with
  | some (.box _ cs)=>match Qs6 ob cs with
   | some ds=>some (.pd ds 0)
   | none=>none
  | _=>none
 | .pd e i=>some (.pd e i)
 | x=>snap1 ob x
def Qh4(ob:List (Nat×AO)):List AV->Option (List AV)
 | []=>some []
 | x::xs=>match Qxi ob x with
  | some y=>match Qh4 ob xs with
   | some ys=>some (y::ys)
   | none=>none
  | none=>none
def QsD(ob:List (Nat×AO)):AV->Option AV
 | .agg xs=>match Qsp ob xs with
  | some ys=>some (.agg ys)
  | none=>none
 | .clo g xs=>match Qh4 ob xs with
  | some ys=>some (.clo g ys)
  | none=>none
 | x=>snap1 ob x
def AS.snaps(σ:AS):List Operand->Option (List AV)
 | []=>some []
 | x::xs=>match QsD σ.ob (σ.ev x) with
  | some y=>match σ.snaps xs with
   | some ys=>some (y::ys)
   | none=>none
  | none=>none
theorem QbM{X:Cx}{σ:AS}{a:Act}{w:World}{en:List Ent}(h:J2 X σ a w en){p:Nat}{e:TypeId}{es:List (List D)}{dp:Bool}(hp:Qn σ.ob p=some (.row e es dp)) :
  ∃y∈en,y.nm=p/\y.ao=.row e es dp/\∃F,(D.sl es).rep w y.val F/\∀b∈F,(b∈y.fs\/blk y.val=some b):=by
 obtain⟨y,u,o,k⟩:=h.ent hp
 have d:=h.mem.ok y u
 have n:=fun b hb=>(d.lt (b:=b) hb).1
 unfold EntOk at d
 rw[k]at d
 obtain⟨z,us,k0,k1,l,x,k4,k5,k6,k7⟩:=d
 obtain⟨A,c,f,q,r,s,g5⟩:=J3 l
 refine⟨y,u,o,k,?_⟩
 by_cases m:es=[]
 ·subst m
  exact⟨[],⟨A,c,z,us,y.fs,f,q,r,s,x,k4,.inl ⟨rfl,rfl⟩⟩,by simp⟩
 ·have i:0<es.length:=Xbb.2 m
  obtain⟨g,g6⟩:=g5 i
  subst g6
  refine⟨g::y.fs,⟨_,c,z,us,y.fs,f,q,r,s,x,k4,.inr ⟨m,g,0,rfl,n g (by rw[f];rfl),rfl,fun j v hj=>?_⟩⟩,fun b hb=>?_⟩
  ·rw[f]at l
   have t:=(List.getElem?_eq_some_iff.1 hj).1
   rw[l.1]at t
   rw[Xa8,l.cellAt j t]
   exact hj
  ·rcases Xai.1 hb with rfl|hb
   ·exact .inr (by rw[f];rfl)
   ·exact .inl hb
theorem JF{X:Cx}{σ:AS}{a:Act}{w:World}{en:List Ent}(h:J2 X σ a w en){x y:AV}{u:Value}(hx:snap1 σ.ob x=some y)(hs:x.shows w en (IM X en w) u):y.shows w [] (fun b=>b<w.heap.size) u:=by
 cases x with
 | d x=>
  injection hx with hx;subst hx
  obtain⟨F,f,_⟩:=hs
  exact⟨F,f,D.rep_lt x u F f⟩
 | nil=>
  injection hx with hx;subst hx
  rw[show u=.slice none 0 0 from hs]
  exact⟨[],⟨none,0,0,[],[],rfl,Xaj _,Xad _,fun _=>rfl,by simp,⟨rfl,rfl⟩,.inl ⟨rfl,rfl⟩⟩,by simp⟩
 | row p=>
  simp only[snap1]at hx
  split at hx
  ·rename_i e es v q
   injection hx with hx;subst hx
   obtain⟨y,r,k,m,F,f,_⟩:=QbM h q
   obtain⟨y',g,o,e2,l⟩:=hs
   have:=h.mem.ent_unique g r (o.trans k.symm)
   subst this
   subst l
   exact⟨F,f,D.rep_lt _ _ F f⟩
  ·cases hx
 | sub p i j=>
  simp only[snap1]at hx
  split at hx
  ·rename_i e es v q
   injection hx with hx;subst hx
   obtain⟨y,r,k,m,F,f,_⟩:=QbM h q
   obtain⟨y',g,o,e2,l,A,n,c,z,e4,s,rfl⟩:=hs
   have:=h.mem.ent_unique g r (o.trans k.symm)
   subst this
   rw[e4]at f
   rw[m]at l s
   obtain⟨F',t,f2⟩:=Qpn (z:=z) (i:=i) (j:=j) f (fun e he=>s e.length (Xaf.2 ⟨e,he,rfl⟩)) l.1 (by have:=l.2;simp only[AO.lens,XaB]at this;exact this)
   exact⟨F',t,D.rep_lt _ _ F' t⟩
  ·cases hx
 | _=>cases hx
theorem Qe7{X:Cx}{σ:AS}{a:Act}{w:World}{en:List Ent}(h:J2 X σ a w en):∀{xs ys:List AV} {us:List Value},Qsp σ.ob xs=some ys->Qm w en (IM X en w) xs us->Qm w [] (fun b=>b<w.heap.size) ys us
 | [],ys,us,hx,hs=>by
  injection hx with hx;subst hx
  exact hs
 | x::xs,ys,us,hx,hs=>by
  obtain⟨u,us',rfl,h1,h2⟩:=hs
  simp only[Qsp]at hx
  split at hx
  ·rename_i y hy
   split at hx
   ·rename_i zs hzs
    injection hx with hx;subst hx
    exact⟨u,us',rfl,JF h hy h1,Qe7 h hzs h2⟩
   ·cases hx
  ·cases hx
theorem Qet{X:Cx}{σ:AS}{a:Act}{w:World}{en:List Ent}(h:J2 X σ a w en):∀{xs:List AV} {ds:List D} {us:List Value},Qs6 σ.ob xs=some ds->Qm w en (IM X en w) xs us->∃F,repL w ds us F/\∀b∈F,b<w.heap.size
 | [],ds,us,hx,hs=>by
  injection hx with hx;subst hx
  exact⟨[],⟨hs,rfl⟩,by simp⟩
 | x::xs,ds,us,hx,hs=>by
  obtain⟨u,us',rfl,h1,h2⟩:=hs
  simp only[Qs6]at hx
  split at hx
  ·rename_i y hy
   split at hx
   ·rename_i zs hzs
    injection hx with hx;subst hx
    obtain⟨F1,g1,g2⟩:=JF h hy h1
    obtain⟨F2,g3,g4⟩:=Qet h hzs h2
    exact⟨F1++F2,⟨u,us',F1,F2,rfl,rfl,g1,g3⟩,fun b hb=>(Xag.1 hb).elim (g2 b) (g4 b)⟩
   ·cases hx
  ·cases hx
theorem QkW{X:Cx}{σ:AS}{a:Act}{w:World}{en:List Ent}(h:J2 X σ a w en){x y:AV}{u:Value}(hx:Qxi σ.ob x=some y)(hs:x.shows w en (IM X en w) u):y.shows w [] (fun b=>b<w.heap.size) u:=by
 unfold Qxi at hx
 split at hx
 ·rename_i p
  split at hx
  ·rename_i e cs hp
   split at hx
   ·rename_i ds l
    injection hx with hx;subst hx
    obtain⟨y,t,s,ai,g,m,rfl⟩:=hs
    obtain⟨y',r,i,f⟩:=h.ent hp
    have:=h.mem.ent_unique t r (s.trans i.symm)
    subst this
    have d:=h.mem.ok y t
    have n:=(d.lt m).1
    unfold EntOk at d
    rw[f]at d
    obtain⟨_,q,k,k1,k2,k3,k4⟩:=d
    have hq:q=g:=by
     rw[k1]at m
     injection m
    subst hq
    obtain⟨F,z,f2⟩:=Qet h l k4
    refine⟨q,0,k.toList,F,rfl,z,fun j v hj=>?_,n,f2⟩
    simp only[World.cell?,k3,Xa8]
    simpa using hj
   ·cases hx
  ·cases hx
 ·injection hx with hx;subst hx
  obtain⟨b,o,us,F,h1,h2,h3,h4,h5⟩:=hs
  exact⟨b,o,us,F,h1,h2,h3,h4.2.1,fun c hc=>(h5 c hc).2.1⟩
 ·exact JF h hx hs
theorem XJ{X:Cx}{σ:AS}{a:Act}{w:World}{en:List Ent}(h:J2 X σ a w en):∀{xs ys:List AV} {us:List Value},Qh4 σ.ob xs=some ys->Qm w en (IM X en w) xs us->Qm w [] (fun b=>b<w.heap.size) ys us
 | [],ys,us,hx,hs=>by
  injection hx with hx;subst hx
  exact hs
 | x::xs,ys,us,hx,hs=>by
  obtain⟨u,us',rfl,h1,h2⟩:=hs
  simp only[Qh4]at hx
  split at hx
  ·rename_i y hy
   split at hx
   ·rename_i zs hzs
    injection hx with hx;subst hx
    exact⟨u,us',rfl,QkW h hy h1,XJ h hzs h2⟩
   ·cases hx
  ·cases hx
theorem Qkd{X:Cx}{σ:AS}{a:Act}{w:World}{en:List Ent}(h:J2 X σ a w en){x y:AV}{u:Value}(hx:QsD σ.ob x=some y)(hs:x.shows w en (IM X en w) u):y.shows w [] (fun b=>b<w.heap.size) u:=by
 cases x with
 | agg xs=>
  simp only[QsD]at hx
  split at hx
  ·rename_i j c
   injection hx with hx;subst hx
   obtain⟨i,e,f⟩:=hs
   exact⟨i,e,Qe7 h c f⟩
  ·cases hx
 | d x=>exact JF (x:=.d x) h hx hs
 | nil=>exact JF (x:=.nil) h hx hs
 | row p=>exact JF (x:=.row p) h hx hs
 | ptr p q=>exact JF (x:=.ptr p q) h hx hs
 | pr p q r=>exact JF (x:=.pr p q r) h hx hs
 | pd p q=>exact JF (x:=.pd p q) h hx hs
 | any=>exact JF (x:=.any) h hx hs
 | tup p=>exact JF (x:=.tup p) h hx hs
 | sub p q r=>exact JF (x:=.sub p q r) h hx hs
 | clo g xs=>
  simp only[QsD]at hx
  split at hx
  ·rename_i j c
   injection hx with hx;subst hx
   obtain⟨i,e,f⟩:=hs
   exact⟨i,e,XJ h c f⟩
  ·cases hx
theorem ZW{X:Cx}{σ:AS}{a:Act}{w:World}{en:List Ent}(h:J2 X σ a w en):∀{xs:List Operand} {ys:List AV},σ.snaps xs=some ys->Qm w [] (fun b=>b<w.heap.size) ys (xs.map a.eval)
 | [],ys,hx=>by
  injection hx with hx;subst hx
  rfl
 | x::xs,ys,hx=>by
  simp only[AS.snaps]at hx
  split at hx
  ·rename_i y hy
   split at hx
   ·rename_i zs hzs
    injection hx with hx;subst hx
    exact⟨_,_,rfl,Qkd h hy (AS.ev_shows h x),ZW h hzs⟩
   ·cases hx
  ·cases hx

def JE(t i:Nat):Nat:=t+1000*i
mutual
def AV.shift(t:Nat):AV->AV
 | .row i=>.row (JE t i)
 | .agg xs=>.agg (QiS t xs)
 | .tup xs=>.tup (QiS t xs)
 | .clo g xs=>.clo g (QiS t xs)
 | .sub o i j=>.sub (JE t o) i j
 | .any=>.any
 | .d x=>.d x
 | .nil=>.nil
 | .ptr o i=>.ptr (JE t o) i
 | .pr o i j=>.pr (JE t o) i j
 | .pd e i=>.pd e i
def QiS(t:Nat):List AV->List AV
 | []=>[]
 | x::xs=>x.shift t::QiS t xs
end
def Vl(t:Nat):List (Nat×AO)->List (Nat×AO)
 | []=>[]
 | (i,ao)::l=>(JE t i,ao)::Vl t l
def Qgq(f:Nat->Bool)(t:Nat)(ob:List (Nat×AO)):List (Nat×AO)->Bool
 | []=>true
 | (i,ao)::l=>ao.isRow&&YR f (JE t i) ob&&Qgq f t ob l
theorem QfL{t i j:Nat}(h:JE t i=JE t j):i=j:=by unfold JE at h;omega
theorem Qfi{f:Nat->Bool}{t:Nat}{ob:List (Nat×AO)}:∀{l:List (Nat×AO)},Qgq f t ob l=true->∀y∈l,y.2.isRow=true/\YR f (JE t y.1) ob=true
 | (i,ao)::l,h,y,hy=>by
  simp only[Qgq,Xab]at h
  rcases Xai.1 hy with rfl|hy
  ·exact⟨h.1.1,h.1.2⟩
  ·exact Qfi h.2 y hy
theorem Qgo(t:Nat):∀(l:List (Nat×AO)),Vl t l=l.map fun y=>(JE t y.1,y.2)
 | []=>rfl
 | (i,ao)::l=>by simp[Vl,Qgo t l]
section
variable {w:World} {en en':List Ent} {I I':Nat->Prop} {t:Nat}
mutual
theorem AV.shows_shift(hI:∀b,I b->I' b)(he:∀x∈en,∃y∈en',y.nm=JE t x.nm/\y.val=x.val/\y.ao=x.ao):∀(x:AV) (u:Value),x.shows w en I u->(x.shift t).shows w en' I' u
 | .any,_,_=>trivial
 | .d x,u,h=>by
  obtain⟨F,h1,h2⟩:=h
  exact⟨F,h1,fun b hb=>hI b (h2 b hb)⟩
 | .nil,_,h=>h
 | .row o,u,h=>by
  obtain⟨x,hx,rfl,h1,h2⟩:=h
  obtain⟨y,hy,g1,g2,g3⟩:=he x hx
  exact⟨y,hy,g1,by rw[g3];exact h1,by rw[g2];exact h2⟩
 | .ptr o off,u,h=>by
  obtain⟨x,hx,rfl,h1,g,h2,h3⟩:=h
  obtain⟨y,hy,g1,g2,g3⟩:=he x hx
  exact⟨y,hy,g1,by rw[g3];exact h1,g,by rw[g2];exact h2,h3⟩
 | .pr o i off,u,h=>by
  obtain⟨x,hx,rfl,h1,g,z,h2,h3,h4,h5⟩:=h
  obtain⟨y,hy,g1,g2,g3⟩:=he x hx
  exact⟨y,hy,g1,by rw[g3];exact h1,g,z,by rw[g2];exact h2,by rw[g3];exact h3,by rw[g3];exact h4,h5⟩
 | .pd e off,u,h=>by
  obtain⟨b,o,us,F,h1,h2,h3,h4,h5⟩:=h
  exact⟨b,o,us,F,h1,h2,h3,hI b h4,fun c hc=>hI c (h5 c hc)⟩
 | .agg xs,u,h=>by
  obtain⟨us,h1,h2⟩:=h
  exact⟨us,h1,V5 hI he xs us h2⟩
 | .tup xs,u,h=>by
  obtain⟨us,h1,h2⟩:=h
  exact⟨us,h1,V5 hI he xs us h2⟩
 | .clo g xs,u,h=>by
  obtain⟨us,h1,h2⟩:=h
  exact⟨us,h1,V5 hI he xs us h2⟩
 | .sub o i j,u,h=>by
  obtain⟨x,hx,rfl,h1,h2,A,n,c,z,h3,h4,h5⟩:=h
  obtain⟨y,hy,g1,g2,g3⟩:=he x hx
  exact⟨y,hy,g1,by rw[g3];exact h1,by rw[g3];exact h2,A,n,c,z,by rw[g2];exact h3,by rw[g3];exact h4,h5⟩
theorem V5(hI:∀b,I b->I' b)(he:∀x∈en,∃y∈en',y.nm=JE t x.nm/\y.val=x.val/\y.ao=x.ao):∀(xs:List AV) (us:List Value),Qm w en I xs us->Qm w en' I' (QiS t xs) us
 | [],_,h=>h
 | x::xs,us,h=>by
  obtain⟨u,us',h1,h2,h3⟩:=h
  exact⟨u,us',h1,AV.shows_shift hI he x u h2,V5 hI he xs us' h3⟩
end
end
theorem Qb0{P:Program}{w w':World}{en:List Ent}(m:Mem P w NoZ NoB en w'):Ext w w':=⟨m.os,m.tape,m.output,m.size,fun b hb=>m.old b hb id⟩
theorem J2.merge{X:Cx}{σ:AS}{a:Act}{w w':World}{en er:List Ent}{t:Nat}{rob:List (Nat×AO)}{r:AV}{v:Value}(h:J2 X σ a w en)(m:Mem X.P w NoZ NoB er w')(hk:(er.map Ent.key).Perm rob)(hr:r.shows w' er (Imm w NoZ NoB er w') v)
  (hf:Qgq X.fre t σ.ob rob=true) (ht:Nat.blt t σ.nt=true):Rel X ⟨σ.nt,(t,r.shift t)::σ.sl,Vl t rob++σ.ob⟩ (a.put (some t) v) w':=by
 have i:=Qb0 m
 have h0:=h.ext i
 have k:=h.mem
 have m1:=h0.mem
 have j:∀y∈en,∀b,y.hd b->b<w.heap.size:=fun y c b hb=>((k.ok y c).lth hb).1
 have aa:∀y∈er,∀b,y.hd b->w.heap.size<=b:=fun y c b hb=>(((m.ok y c).lth hb).2).resolve_left id
 have f:∀y∈er,y.ao.isRow=true/\YR X.fre (JE t y.nm) σ.ob=true:=fun y c=>Qfi hf y.key (hk.mem_iff.1 (Xaf.2 ⟨y,c,rfl⟩))
 let g:Ent->Ent:=fun y=>{ y with nm:=JE t y.nm }
 have ad:∀b,Imm X.w0 X.Z X.O en w' b->b<w.heap.size->Imm X.w0 X.Z X.O (er.map g++en) w' b:=fun b hb af=>⟨hb.1,hb.2.1,fun y c=>by
  rcases Xag.1 c with c|c
  ·obtain⟨z,d,rfl⟩:=Xaf.1 c
   intro e
   have:=aa z d b e
   omega
  ·exact hb.2.2 y c⟩
 have ae:∀b,Imm w NoZ NoB er w' b->Imm X.w0 X.Z X.O (er.map g++en) w' b:=fun b hb=>by
  have af:w.heap.size<=b:=(hb.1.resolve_left id).resolve_left id
  refine⟨.inr (.inr (Xal k.size af)),hb.2.1,fun y c=>?_⟩
  rcases Xag.1 c with c|c
  ·obtain⟨z,d,rfl⟩:=Xaf.1 c
   exact hb.2.2 z d
  ·intro e
   have:=j y c b e
   omega
 have an:∀(x:AV) (u:Value),x.shows w en (IM X en w) u->x.shows w' (er.map g++en) (IM X (er.map g++en) w') u:=fun x u hxu=>
  AV.shows_mono i.size (fun b hb=>i.block b hb.2.1) (fun b hb=>ad b ⟨hb.1,XaQ hb.2.1 i.size,hb.2.2⟩ hb.2.1) (fun y c=>⟨y,Xax _ c,rfl,rfl,rfl,rfl⟩) hxu
 have ag:Mem X.P X.w0 X.Z X.O (er.map g++en) w':=by
  refine⟨m1.os,m1.tape,m1.output,m1.size,m1.old,?_,?_,?_,?_,fun y c=>?_⟩
  ·rw[XaG,Xbs]
   refine⟨?_,k.names,?_⟩
   ·have:(er.map g).map Ent.nm=(er.map Ent.nm).map (JE t):=by simp only[XaV];rfl
    rw[this]
    exact Xa1 _ (fun x y hxy e=>hxy (QfL e)) m.names
   ·intro n hn n' am e
    subst e
    obtain⟨y,c,e1⟩:=Xaf.1 hn
    obtain⟨z,d,rfl⟩:=Xaf.1 c
    obtain⟨q,hq,e2⟩:=Xaf.1 am
    have h3:=(Ja (f z d).2).1
    have:hasN (JE t z.nm) σ.ob=true:=Jf.2 ⟨q.key,h.ob.mem_iff.1 (Xaf.2 ⟨q,hq,rfl⟩),e2.trans e1.symm⟩
    rw[h3]at this;cases this
  ·rw[Xbj]
   refine⟨Xa1 _ (fun x y hxy=>hxy) m.blks,k.blks,fun y c z d b hb hb'=>?_⟩
   obtain⟨q,hq,rfl⟩:=Xaf.1 c
   have h1:=aa q hq b hb
   have h2:=j z d b hb'
   omega
  ·intro y c
   rcases Xag.1 c with c|c
   ·obtain⟨z,d,rfl⟩:=Xaf.1 c
    have ab:=m.ok z d
    have ah:=(f z d).1
    unfold EntOk at ab
    split at ab
    ·rename_i e es dp l
     obtain⟨s,us,k0,k1,k2,k3,k4,k5,k6,k7⟩:=ab
     unfold EntOk
     simp only[g,l]
     exact⟨s,us,k0,k1,k2,k3,k4,fun hd b hb=>ae b (k5 hd b hb),fun q hq=>.inr (Xal k.size ((k6 q hq).resolve_left id)),fun hd=>⟨(k7 hd).1,fun b hb=>⟨.inr (Xal k.size (((k7 hd).2.1 b hb).1.resolve_left id)),((k7 hd).2.1 b hb).2⟩,(k7 hd).2.2⟩⟩
    ·rename_i e cs l
     rw[l]at ah;cases ah
   ·have h3:=(k.ok y c).mono (p:=fun _=>true) (w':=w') (en':=er.map g++en) (I':=IM X (er.map g++en) w') (Fr':=Frs X.w0 X.O) i.size (fun b hb=>i.block b hb.2.1)
     (fun b hb=>ad b ⟨hb.1,XaQ hb.2.1 i.size,hb.2.2⟩ hb.2.1) (fun _ hb=>hb) (fun b hb=>i.block b (j y c b hb)) (fun y c _=>⟨y,Xax _ c,rfl,rfl,rfl,rfl⟩)
    have e:y.cut (fun _=>true)=y:=by cases y;simp[Ent.cut,AO.cut_true]
    rwa [e]at h3
  ·rw[Xbj]
   refine⟨Xa1 _ (fun x y hxy=>hxy) m.apart,k.apart,fun y c z d hdy hdz b hb hb'=>?_⟩
   obtain⟨q,hq,rfl⟩:=Xaf.1 c
   have h1:w.heap.size<=b:=aa q hq b (.inr ⟨hdy,hb⟩)
   have h2:b<w.heap.size:=j z d b (.inr ⟨hdz,hb'⟩)
   omega
  ·rcases Xag.1 c with c|c
   ·obtain⟨z,d,rfl⟩:=Xaf.1 c
    exact X.Z.lo _ _ (Ja (f z d).2).2
   ·exact k.fix y c
 have h2:J2 X ⟨σ.nt,σ.sl,Vl t rob++σ.ob⟩ a w' (er.map g++en):=by
  refine⟨ag,?_,h.defers,h.size,fun s=>an _ _ (h.slots s)⟩
  rw[XaG]
  refine XcJ ?_ h.ob
  rw[Qgo]
  have e:(er.map g).map Ent.key=(er.map Ent.key).map fun y=>(JE t y.1,y.2):=by simp only[XaV];rfl
  rw[e]
  exact hk.map _
 exact⟨_,h2.put (AV.shows_shift ae (fun x i=>⟨g x,Xau _ (Xaf.2 ⟨x,i,rfl⟩),rfl,rfl,rfl⟩) r v hr) ht⟩
section
variable {X:Cx} {σ:AS} {o:Oper} {K:AS->Prop} {t:Nat}
theorem Vs{P:Program}{o:Oper}{f:FuncId}{as:Array Operand}{ats:Array TypeId}(ho:o.op=.call { callee:=.value (.func f),args:=as,argTypes:=ats })(a:Act)(w:World) :
  (execOp a.eval o).run P w=(callFunc f (as.toList.map a.eval).toArray).run P w:=by
 have e:as.map a.eval=(as.toList.map a.eval).toArray:=by cases as;simp
 simp only[execOp,ho,resolve,e]
 simp[Act.eval,Deferred.ofValue,invoke]
end
end
section

def vput(σ:AS)(t:Nat)(v:AV):Option AS:=
 bif Nat.blt t σ.nt then(match v with
 | .any=>some (σ.put t .any)
 | .d (.n k x)=>some (σ.put t (.d (.n k x)))
 | .d (.b x)=>some (σ.put t (.d (.b x)))
 | .d (.s x)=>some (σ.put t (.d (.s x)))
 | .d (.sl x)=>some (σ.put t (.d (.sl x)))
 | .d .un=>some (σ.put t (.d .un))
 | .nil=>some (σ.put t .nil)
 | .row o=>some (σ.put t (.row o))
 | .ptr o i=>some (σ.put t (.ptr o i))
 | .pr o i j=>some (σ.put t (.pr o i j))
 | .pd e i=>some (σ.put t (.pd e i))
 | .agg xs=>some (σ.put t (.agg xs))
 | .tup xs=>some (σ.put t (.tup xs))
 | .clo g xs=>some (σ.put t (.clo g xs))
 | .sub o i j=>some (σ.put t (.sub o i j)))else none
theorem QJ{σ σ':AS}{t:Nat}{v:AV}(h:vput σ t v=some σ'):σ'=σ.put t v/\Nat.blt t σ.nt=true:=by
 unfold vput at h
 cases hb:Nat.blt t σ.nt with
 | false=>rw[hb]at h;cases h
 | true=>
  rw[hb]at h
  simp only[cond_true]at h
  split at h <;> (injection h with h;exact⟨h.symm,rfl⟩)
def Zf{α:Type}:List AV->(List AV->Option α)->Option α
 | [],k=>k []
 | x::xs,k=>Zf xs fun ys=>k (x::ys)
theorem YE{α:Type}:∀(xs:List AV) (k:List AV->Option α),Zf xs k=k xs
 | [],k=>rfl
 | x::xs,k=>by rw[Zf,YE xs]
def cmpI(op:BinOp)(x y:Int):Option Bool:=
 match op with
 | .eql=>some (x==y)
 | .neq=>some (x != y)
 | .lss=>some (decide (x<y))
 | .leq=>some (decide (x<=y))
 | .gtr=>some (decide (y<x))
 | .geq=>some (decide (y<=x))
 | _=>none
def binA(σ:AS)(t:Nat)(op:BinOp)(bool:Bool)(x y:AV):Option AS:=
 match x with
 | .d (.n k p)=>match y with
  | .d (.n k' q)=>match decEq k k' with
   | .isTrue _=>match cmpI op p q with
    | some b=>vput σ t (.d (.b b))
    | none=>none
   | .isFalse _=>none
  | _=>none
 | .d (.s l)=>match y with
  | .d (.s r)=>match op with
   | .eql=>vput σ t (.d (.b (l==r)))
   | .neq=>vput σ t (.d (.b (l != r)))
   | _=>none
  | _=>none
 | .d (.b p)=>match y with
  | .d (.b q)=>bif bool then(match op with
   | .eql=>vput σ t (.d (.b (p==q)))
   | .neq=>vput σ t (.d (.b (p != q)))
   | _=>none)else none
  | _=>none
 | _=>none
def Qqa:TypeDesc->Bool
 | .bool=>true
 | _=>false
def QvO(X:Cx)(T:TypeId):Bool:=match X.tt T with
 | some ti=>Qqa ti.desc
 | none=>false
def newO(fre:Nat->Bool)(σ:AS)(t:Nat)(T:TypeId)(cs:List AV):Option AS:=
 bif Nat.blt t σ.nt then(bif YR fre t σ.ob then some ⟨σ.nt,(t,.ptr t 0)::σ.sl,(t,.box T cs)::Y5 t σ.ob⟩else none)else none
def aopV(X:Cx)(o:Oper)(σ:AS):Option AS:=
 match o.dst with
 | some t=>match o.op with
  | .move x=>vput σ t (σ.ev x)
  | .assign x=>vput σ t (σ.ev x)
  | .pick c x y=>match σ.ev c with
   | .d (.b q)=>match q with
    | true=>vput σ t (σ.ev x)
    | false=>vput σ t (σ.ev y)
   | _=>none
  | .extract x i=>match σ.ev x with
   | .tup xs=>match xs[i]? with
    | some v=>vput σ t v
    | none=>none
   | _=>none
  | .unOp .not _ x=>match σ.ev x with
   | .d (.b q)=>vput σ t (.d (.b (!q)))
   | _=>none
  | .nilCheck x=>match σ.ev x with
   | .ptr p i=>vput σ t (.ptr p i)
   | .pd e i=>vput σ t (.pd e i)
   | .clo g xs=>vput σ t (.clo g xs)
   | _=>none
  | .makeFunc (.func g) fs cs=>match fs.toList with
   | []=>Zf (cs.toList.map σ.ev) fun xs=>vput σ t (.clo g xs)
   | _=>none
  | .binOp op T x y _=>binA σ t op (QvO X T) (σ.ev x) (σ.ev y)
  | .load T x=>match X.tt T with
   | some ti=>match σ.at (σ.ev x) with
    | some xs=>bif J6 ti.desc then Zf (xs.take ti.size) (fun ys=>bif Nat.beq ys.length ti.size then vput σ t (.agg ys)else none)
     else(match xs[0]? with
      | some v=>vput σ t v
      | none=>none)
    | none=>none
   | none=>none
  | .fieldAddr T x f=>match X.tt T with
   | some ti=>match Vv ti.desc f with
    | some (off,ft)=>match X.tt ft with
     | some tf=>bif Nat.beq tf.size 0 then none else(match (σ.ev x) with
      | .ptr p i=>vput σ t (.ptr p (i+off))
      | .pr p i j=>vput σ t (.pr p i (j+off))
      | .pd e i=>vput σ t (.pd e (i+off))
      | _=>none)
     | none=>none
    | none=>none
   | none=>none
  | _=>none
 | none=>none
def aopM(X:Cx)(o:Oper)(σ:AS):Option AS:=
 match o.dst with
 | some t=>match o.op with
  | .alloc T=>match X.tt T with
   | some ti=>Zf (Z6 ti.zero) fun cs=>newO X.fre σ t T cs
   | none=>none
  | .box T x=>match (σ.ev x).cellsV with
   | some cs=>newO X.fre σ t T cs
   | none=>none
  | _=>none
 | none=>match o.op with
  | .store T x y=>match X.tt T with
   | some ti=>match σ.ev x with
    | .ptr p off=>match Qn σ.ob p with
     | some (.box e cs)=>match (σ.ev y).cellsV with
      | some xs=>bif Nat.beq xs.length ti.size then(bif Nat.ble (off+ti.size) cs.length then Zf (splice cs off xs) (fun ys=>some ⟨σ.nt,σ.sl,(p,.box e ys)::Y5 p σ.ob⟩)else none)else none
      | none=>none
     | _=>none
    | _=>none
   | none=>none
  | _=>none
def aop(X:Cx)(o:Oper)(σ:AS):Option AS:=match aopV X o σ with
 | some σ'=>some σ'
 | none=>aopM X o σ
def gOp(f:Oper->AS->Option AS)(ops:Array Oper)(o:Oper)(σ:AS):Option AS:=
 match o.guard with
 | none=>f o σ
 | some (j,w)=>match (ops[j]?).bind (·.dst) with
  | none=>none
  | some d=>match look σ.sl d with
   | .d (.b q)=>match q with
    | true=>match w with
     | true=>f o σ
     | false=>match o.dst with
      | some s=>vput σ s (.tup [])
      | none=>none
    | false=>match w with
     | false=>f o σ
     | true=>match o.dst with
      | some s=>vput σ s (.tup [])
      | none=>none
   | .tup []=>match o.dst with
    | some s=>vput σ s (.tup [])
    | none=>none
   | _=>none
def aopG(X:Cx)(ops:Array Oper)(o:Oper)(σ:AS):Option AS:=gOp (aop X) ops o σ
def aopQ(X:Cx)(ops:Array Oper)(o:Oper)(σ:AS):Option AS:=gOp (aopV X) ops o σ
section
variable {X:Cx} {σ σ':AS} {o:Oper} {K:AS->Prop} {Q:Exit->AS->Prop}
theorem Qsr{op:BinOp}{k:IntKind}{p q:Int}{b:Bool}(h:cmpI op p q=some b):binI op k p q=some (.b b):=by
 cases op <;> simp_all[cmpI,binI]
theorem Qho(h:aopV X o σ=some σ')(hK:K σ'):QOk X o σ K:=by
 unfold aopV at h
 split at h
 ·rename_i t n
  split at h
  ·rename_i x d
   obtain⟨rfl,a⟩:=QJ h
   exact Qo3 d n rfl a hK
  ·rename_i x d
   obtain⟨rfl,a⟩:=QJ h
   exact Qig d n rfl a hK
  ·rename_i c x y d
   split at h
   ·rename_i q hc
    split at h
    ·obtain⟨rfl,a⟩:=QJ h
     exact Qrk d n hc rfl a hK
    ·obtain⟨rfl,a⟩:=QJ h
     exact Qrk d n hc rfl a hK
   ·cases h
  ·rename_i x i d
   split at h
   ·rename_i xs m
    split at h
    ·rename_i v hv
     obtain⟨rfl,a⟩:=QJ h
     exact QnD d n m hv a hK
    ·cases h
   ·cases h
  ·rename_i T x d
   split at h
   ·rename_i q m
    obtain⟨rfl,a⟩:=QJ h
    exact Qyt d n m a hK
   ·cases h
  ·rename_i x d
   split at h
   ·rename_i p i m
    obtain⟨rfl,a⟩:=QJ h
    exact Qkt d n m a hK
   ·rename_i e i m
    obtain⟨rfl,a⟩:=QJ h
    exact QiL d n m a hK
   ·rename_i g xs m
    obtain⟨rfl,a⟩:=QJ h
    exact Qia d n m a hK
   ·cases h
  ·rename_i g fs cs d
   split at h
   ·rename_i ac
    rw[YE]at h
    obtain⟨rfl,a⟩:=QJ h
    have:fs=#[]:=by cases fs;simpa using ac
    subst this
    exact QkZ d n rfl a hK
   ·cases h
  ·rename_i op T x y yt d
   unfold binA at h
   split at h
   ·rename_i k p m
    split at h
    ·rename_i k' q u
     split at h
     ·rename_i ad _
      subst ad
      split at h
      ·rename_i b hb
       obtain⟨rfl,a⟩:=QJ h
       exact ZF d n m u (Qsr hb) a hK
      ·cases h
     ·cases h
    ·cases h
   ·rename_i l m
    split at h
    ·rename_i r u
     split at h
     ·obtain⟨rfl,a⟩:=QJ h
      exact Qxp d n m u a hK
     ·obtain⟨rfl,a⟩:=QJ h
      exact Qxs d n m u a hK
     ·cases h
    ·cases h
   ·rename_i p m
    split at h
    ·rename_i q u
     cases s:QvO X T with
     | false=>rw[s]at h;cases h
     | true=>
      rw[s]at h
      unfold QvO at s
      split at s
      ·rename_i ti _
       have w:ti.desc=.bool:=by
        unfold Qqa at s
        split at s
        ·assumption
        ·cases s
       simp only[cond_true]at h
       split at h
       ·obtain⟨rfl,a⟩:=QJ h
        exact QyE (ti:=ti) w d n m u a hK
       ·obtain⟨rfl,a⟩:=QJ h
        exact Qxz (ti:=ti) w d n m u a hK
       ·cases h
      ·cases s
    ·cases h
   ·cases h
  ·rename_i T x d
   split at h
   ·rename_i ti _
    split at h
    ·rename_i xs m
     cases ha:J6 ti.desc with
     | true=>
      rw[ha,cond_true,YE]at h
      cases hl:Nat.beq (xs.take ti.size).length ti.size with
      | false=>rw[hl]at h;cases h
      | true=>
       rw[hl,cond_true]at h
       obtain⟨rfl,a⟩:=QJ h
       exact Qls (ti:=ti) d n (by rw[m];rfl) hl ha a hK
     | false=>
      rw[ha,cond_false]at h
      split at h
      ·rename_i v hv
       obtain⟨rfl,a⟩:=QJ h
       exact Qlo (ti:=ti) d n (by rw[m];exact hv) ha a hK
      ·cases h
    ·cases h
   ·cases h
  ·rename_i T x f d
   split at h
   ·rename_i ti _
    split at h
    ·rename_i aj ft hf
     split at h
     ·rename_i tf _
      cases z:Nat.beq tf.size 0 with
      | true=>rw[z]at h;cases h
      | false=>
       rw[z,cond_false]at h
       split at h
       ·rename_i p i m
        obtain⟨rfl,a⟩:=QJ h
        exact Qg4 (ti:=ti) (tf:=tf) (v:=.ptr p i) d n hf z m rfl a hK
       ·rename_i p i j m
        obtain⟨rfl,a⟩:=QJ h
        exact Qg4 (ti:=ti) (tf:=tf) (v:=.pr p i j) d n hf z m rfl a hK
       ·rename_i e i m
        obtain⟨rfl,a⟩:=QJ h
        exact Qg4 (ti:=ti) (tf:=tf) (v:=.pd e i) d n hf z m rfl a hK
       ·cases h
     ·cases h
    ·cases h
   ·cases h
  ·cases h
 ·cases h
theorem Qvz(h:aopM X o σ=some σ')(hK:K σ'):OpOk X o σ K:=by
 unfold aopM at h
 split at h
 ·rename_i t d
  split at h
  ·rename_i T c
   split at h
   ·rename_i ti _
    rw[YE]at h
    unfold newO at h
    cases hb:Nat.blt t σ.nt with
    | false=>rw[hb]at h;cases h
    | true=>
     rw[hb]at h
     cases b:YR X.fre t σ.ob with
     | false=>rw[b]at h;cases h
     | true=>
      rw[b]at h
      simp only[cond_true,Xan]at h
      subst h
      exact Qt4 (ti:=ti) c d b hb hK
   ·cases h
  ·rename_i T x c
   split at h
   ·rename_i j g
    unfold newO at h
    cases hb:Nat.blt t σ.nt with
    | false=>rw[hb]at h;cases h
    | true=>
     rw[hb]at h
     cases b:YR X.fre t σ.ob with
     | false=>rw[b]at h;cases h
     | true=>
      rw[b]at h
      simp only[cond_true,Xan]at h
      subst h
      exact Qx8 c d g b hb hK
   ·cases h
  ·cases h
 ·rename_i d
  split at h
  ·rename_i T x y c
   split at h
   ·rename_i ti _
    split at h
    ·rename_i p i g
     split at h
     ·rename_i e j k
      split at h
      ·rename_i m l
       cases f:Nat.beq m.length ti.size with
       | false=>rw[f]at h;cases h
       | true=>
        rw[f,cond_true]at h
        cases a:Nat.ble (i+ti.size) j.length with
        | false=>rw[a]at h;cases h
        | true=>
         rw[a,cond_true,YE]at h
         simp only[Xan]at h
         subst h
         exact Qte (ti:=ti) c d g k l f a hK
      ·cases h
     ·cases h
    ·cases h
   ·cases h
  ·cases h
theorem QiY(h:aop X o σ=some σ')(hK:K σ'):OpOk X o σ K:=by
 unfold aop at h
 split at h
 ·rename_i σ1 a
  injection h with h
  subst h
  exact(Qho a hK).ok
 ·exact Qvz h hK
theorem Qwe{ops:Array Oper}{l:List Oper}(h:aopG X ops o σ=some σ')(hK:QI X ops l Q σ'):QI X ops (o::l) Q σ:=by
 unfold aopG gOp at h
 split at h
 ·rename_i a
  exact Qle a (QiY h hK)
 ·rename_i j w a
  split at h
  ·cases h
  ·rename_i d c
   split at h
   ·rename_i q b
    split at h
    ·split at h
     ·exact Qk3 a c b (QiY h hK)
     ·split at h
      ·rename_i s e
       obtain⟨rfl,f⟩:=QJ h
       exact QuX a c b rfl e f hK
      ·cases h
    ·split at h
     ·exact Qk3 a c b (QiY h hK)
     ·split at h
      ·rename_i s e
       obtain⟨rfl,f⟩:=QJ h
       exact QuX a c b rfl e f hK
      ·cases h
   ·rename_i b
    split at h
    ·rename_i s e
     obtain⟨rfl,f⟩:=QJ h
     exact Qv2 a c b e f hK
    ·cases h
   ·cases h
theorem Qv1{ops:Array Oper}{N:AS->Prop}{l:List Oper}(h:aopQ X ops o σ=some σ')(hK:QsOk X ops l N σ'):QsOk X ops (o::l) N σ:=by
 unfold aopQ gOp at h
 split at h
 ·rename_i a
  exact Qq6 a (Qho h hK)
 ·rename_i j w a
  split at h
  ·cases h
  ·rename_i d c
   split at h
   ·rename_i q b
    split at h
    ·split at h
     ·exact Qot a c b (Qho h hK)
     ·split at h
      ·rename_i s e
       obtain⟨rfl,f⟩:=QJ h
       exact Qyn a c b rfl e f hK
      ·cases h
    ·split at h
     ·exact Qot a c b (Qho h hK)
     ·split at h
      ·rename_i s e
       obtain⟨rfl,f⟩:=QJ h
       exact Qyn a c b rfl e f hK
      ·cases h
   ·rename_i b
    split at h
    ·rename_i s e
     obtain⟨rfl,f⟩:=QJ h
     exact Qye a c b e f hK
    ·cases h
   ·cases h
end
structure QjR (p:Prop):Prop where
 go:p
theorem Qu{X:Cx}{Q:Exit->AS->Prop}{σ:AS}(h:QjR (Q .ret σ)):AWp X .ret Q σ:=QeC h.go
theorem eq_b{x:AV}{p q:Bool}(h:x=.d (.b p))(h2:QjR (p=q)):x=.d (.b q):=h2.go▸h
theorem eq_n{x:AV}{k:IntKind}{p q:Int}(h:x=.d (.n k p))(h2:QjR (p=q)):x=.d (.n k q):=h2.go▸h
theorem eq_s{x:AV}{p q:List UInt8}(h:x=.d (.s p))(h2:QjR (p=q)):x=.d (.s q):=h2.go▸h
theorem Qze{x:AV}{p q:List (List D)}(h:x=.d (.sl p))(h2:QjR (p=q)):x=.d (.sl q):=h2.go▸h
theorem Qyu{x:AV}{p q:List AV}(h:x=.agg p)(h2:p=q):x=.agg q:=h2▸h
theorem QwO{l:List AV}{x y:AV}{p q:List AV}(h:l=x::p)(h1:x=y)(h2:p=q):l=y::q:=h1▸h2▸h
theorem QxI{x:Option AO}{e:TypeId}{p q:List (List D)}{d:Bool}(h:x=some (.row e p d))(h2:QjR (p=q)):x=some (.row e q d):=h2.go▸h
theorem QvE{x:Option AO}{e:TypeId}{p q:List AV}(h:x=some (.box e p))(h2:p=q):x=some (.box e q):=h2▸h

mutual
def AV.rigid:AV->Bool
 | .d (.n _ _)=>true
 | .d (.b _)=>true
 | .d (.s _)=>true
 | .nil=>true
 | .agg xs=>Qe2 xs
 | .tup xs=>Qe2 xs
 | _=>false
def Qe2:List AV->Bool
 | []=>true
 | x::xs=>x.rigid&&Qe2 xs
end
mutual
def AV.val:AV->Value
 | .d (.n k x)=>.int k x
 | .d (.b t)=>.bool t
 | .d (.s l)=>.string ⟨l.toArray⟩
 | .nil=>.slice none 0 0
 | .agg xs=>.agg (valL xs).toArray
 | .tup xs=>.tuple (valL xs).toArray
 | _=>undef
def valL:List AV->List Value
 | []=>[]
 | x::xs=>x.val::valL xs
end
section
variable {w:World} {en:List Ent} {I:Nat->Prop}
mutual
theorem AV.rigid_val:∀(x:AV) (u:Value),x.rigid=true->x.shows w en I u->u=x.val
 | .d (.n k x),u,_,h=>by obtain⟨F,⟨h,_⟩,_⟩:=h;exact h
 | .d (.b t),u,_,h=>by obtain⟨F,⟨h,_⟩,_⟩:=h;exact h
 | .d (.s l),u,_,h=>by obtain⟨F,⟨h,_⟩,_⟩:=h;exact h
 | .nil,u,_,h=>h
 | .agg xs,u,hr,h=>by
  obtain⟨us,rfl,h⟩:=h
  rw[Qcg xs us hr h,AV.val]
 | .tup xs,u,hr,h=>by
  obtain⟨us,rfl,h⟩:=h
  rw[Qcg xs us hr h,AV.val]
theorem Qcg:∀(xs:List AV) (us:List Value),Qe2 xs=true->Qm w en I xs us->us=valL xs
 | [],us,_,h=>h
 | x::xs,us,hr,h=>by
  obtain⟨u,us',rfl,h1,h2⟩:=h
  simp only[Qe2,Xab]at hr
  rw[AV.rigid_val x u hr.1 h1,Qcg xs us' hr.2 h2,valL]
end
mutual
theorem AV.rigid_shows:∀(x:AV),x.rigid=true->x.shows w en I x.val
 | .d (.n k x),_=>⟨[],⟨rfl,rfl⟩,by simp⟩
 | .d (.b t),_=>⟨[],⟨rfl,rfl⟩,by simp⟩
 | .d (.s l),_=>⟨[],⟨rfl,rfl⟩,by simp⟩
 | .nil,_=>rfl
 | .agg xs,h=>⟨_,rfl,Xh xs h⟩
 | .tup xs,h=>⟨_,rfl,Xh xs h⟩
theorem Xh:∀(xs:List AV),Qe2 xs=true->Qm w en I xs (valL xs)
 | [],_=>rfl
 | x::xs,h=>by
  simp only[Qe2,Xab]at h
  exact⟨_,_,rfl,AV.rigid_shows x h.1,Xh xs h.2⟩
end
end
section
variable {X:Cx} {σ:AS} {o:Oper} {K:AS->Prop} {t:Nat}
section num
variable {p q:Int} {m n:Nat} {xt yt:TypeId} {x y:Operand}
end num

def AS.els(σ:AS):AV->Option (List (List D))
 | .d (.sl es)=>some es
 | .nil=>some []
 | .row p=>match Qn σ.ob p with
  | some (.row _ es _)=>some es
  | _=>none
 | _=>none
def Qdv:TypeDesc->Option TypeId
 | .slice e=>some e
 | _=>none
def JQ(X:Cx)(T:TypeId):Option TypeId:=match X.tt T with
 | some ti=>Qdv ti.desc
 | none=>none
theorem QY{T e:TypeId}(h:JQ X T=some e):X.P.underlying T=some (.slice e):=by
 unfold JQ at h
 split at h
 ·rename_i b _
  unfold Qdv at h
  split at h
  ·rename_i a
   injection h with h
   subst h
   exact a▸b.und
  ·cases h
 ·cases h
def QeX:TypeDesc->Bool
 | .string=>true
 | _=>false
def ZY(X:Cx)(T:TypeId):Bool:=match X.tt T with
 | some b=>QeX b.desc
 | none=>false
theorem WI{T:TypeId}(h:ZY X T=true):X.P.underlying T=some .string:=by
 unfold ZY at h
 split at h
 ·rename_i b _
  unfold QeX at h
  split at h
  ·rename_i a
   exact a▸b.und
  ·cases h
 ·cases h
theorem XG{a:Act}{w:World}{en:List Ent}(h:J2 X σ a w en){v:AV}{es:List (List D)}{u:Value}(hv:σ.els v=some es)(hs:v.shows w en (IM X en w) u) :
  ∃A cap,u=.slice A es.length cap/\es.length<=cap/\cap<=maxLen/\(A=none->cap=0)/\∃F,(D.sl es).rep w u F:=by
 cases v with
 | d x=>
  cases x with
  | sl f=>
   simp only[AS.els,Xan]at hv
   subst hv
   obtain⟨F,c,_⟩:=hs
   have g:=c
   obtain⟨A,cap,z,t,F',b,i,k,m,_⟩:=c
   exact⟨A,cap,b,i,k,m,F,g⟩
  | _=>cases hv
 | nil=>
  simp only[AS.els,Xan]at hv
  subst hv
  rw[show u=.slice none 0 0 from hs]
  exact⟨none,0,rfl,Xaj _,Xad _,fun _=>rfl,[],none,0,0,[],[],rfl,Xaj _,Xad _,fun _=>rfl,by simp,⟨rfl,rfl⟩,.inl ⟨rfl,rfl⟩⟩
 | row p=>
  simp only[AS.els]at hv
  split at hv
  ·rename_i e f dp q
   injection hv with hv
   subst hv
   obtain⟨y,r,o,s,F,c,_⟩:=QbM h q
   obtain⟨y',n,b,e2,rfl⟩:=hs
   have:=h.mem.ent_unique n r (b.trans o.symm)
   subst this
   have g:=c
   obtain⟨A,cap,z,t,F',b,i,k,m,_⟩:=c
   exact⟨A,cap,b,i,k,m,F,g⟩
  ·cases hv
 | _=>cases hv
def nth{α:Type}[Inhabited α](l:List α)(j:Nat):α:=l.getD j default
theorem Qyi{α β:Type}[Inhabited α]{f:α->β}{l:List α}{j:Nat}(h:j<l.length):(l.map f)[j]?=some (f (nth l j)):=by
 simp[nth,List.getD,h]
end

def lenE(es:List (List D))(z:Nat):Prop:=∀e∈es,e.length=z
def D.flat1:D->Bool
 | .sl _=>false
 | _=>true
def WC(es:List (List D)):Bool:=es.all fun e=>e.all D.flat1
theorem JT{e:List D}(h:e.all D.flat1=true):e.all D.flat=true:=by
 rw[Xaw]at h ⊢
 intro d a
 have:=h d a
 cases d <;> first|rfl|cases this
theorem Ys{es:List (List D)}(h:WC es=true):∀e∈es,e.all D.flat=true:=fun e he=>JT (by
 unfold WC at h
 rw[Xaw]at h
 exact h e he)
theorem QoJ{w:World}{es:List (List D)}{u:Value}{F:List Nat}{z:Nat}(h:(D.sl es).rep w u F)(hz:lenE es z) :
  ∃A cap us F',u=.slice A es.length cap/\Rd w z A es.length cap us/\repE w es us F'/\∀b∈F',b∈F:=by
 obtain⟨A,cap,z',us,F',d,f,g,i,h5,c,a⟩:=h
 refine⟨A,cap,us,F',d,⟨?_,f,⟨by unfold maxLen at g;omega,i⟩,fun hn=>?_⟩,c,fun b hb=>?_⟩
 ·exact Ju c hz
 ·rcases a with ⟨a,_⟩|⟨a,b,o,h8,h9,h10,h11⟩
  ·subst a;simp at hn
  ·exact⟨b,o,h8,h11⟩
 ·rcases a with ⟨a,_⟩|⟨a,b',o,h8,h9,h10,h11⟩
  ·subst a
   obtain⟨_,e⟩:=c
   rw[e]at hb;cases hb
  ·rw[h10];exact Xae _ hb
theorem YZ{P:Program}{w:World}(base:Nat)(t ty e:TypeId)(i:TypeInfo)(z:Value)(size bytes:Nat)(ht:P.underlying t=some (.slice e))(hi:P.info? e=some i)(hz:i.zero=some z)
  (hsize:i.size=size) (hby:i.bytes=bytes) (hzs:z.cells.size=size) (hsz:0<size) (v:Value) (n:Nat) (xs:List Value) (hown:w.ownsRow base e size v n xs)
  (A:Option Addr) (m c:Nat) (news:List Value) (hr:Rd w size A m c news) (h1:∀u∈news,u.oneCell'=true) (h63:n+m<=maxLen) (hbytes:((n+m)+(n+m) / 4+192)*bytes<=281474976710656) (hbase:base<=w.heap.size) :
  ∃v' w',(Builtin.append_ #[t,t] ty #[v,.slice A m c]).run P w=.ok v' w'/\w'.ownsRow base e size v' (n+m) (xs++news)/\w.grownBy w' v.ownBlock/\∀b,blk v'=some b->w.heap.size<=b\/blk v=some b:=by
 cases A with
 | none=>
  have l:m=0:=by
   rcases Nat.eq_zero_or_pos m with h0|h0
   ·exact h0
   ·obtain⟨b,of,e,_⟩:=hr.2.2.2 h0
    cases e
  have p:=hr.2.2.1.2 rfl
  subst l;subst p
  have a:news=[]:=XaD (by rw[hr.1,Xbq])
  subst a
  exact⟨v,w,run_append_owned_none (P:=P) w base t ty e i size ht hi v n xs hown,by simpa using hown,World.grownBy.refl _ _,fun b hb=>.inr hb⟩
 | some ad=>
  have a:∀j u,news[j]?=some u->w.cell? (ad.add j)=some u:=fun j u hu=>by
   have l:0<m:=by
    have q:=(List.getElem?_eq_some_iff.1 hu).1
    rw[hr.1]at q
    exact Nat.pos_of_ne_zero (fun e=>by subst e;simp at q)
   obtain⟨b,of,e,p⟩:=hr.2.2.2 l
   injection e with e
   subst e
   rw[Yi]
   exact p j u hu
  obtain⟨v',w',o,r,s,x⟩:=run_append_own_wide (P:=P) w base t ty e i z size bytes ht hi hz hsize hby hzs hsz v n xs hown ad m c news hr.1 a h1 h63 hbytes hbase
  refine⟨v',w',o,r,s,fun b hb=>?_⟩
  have y:n+m<=9223372036854775807:=by unfold maxLen at h63;omega
  subst hsize
  subst hby
  rcases hown.2 with ⟨rfl,rfl⟩|⟨g,cap,cur,rfl,hbg,hg,hnc,hcm,hcs,htake⟩
  ·by_cases l:m=0
   ·rw[x.2 ⟨rfl,l⟩]at hb;cases hb
   ·have d:=run_append_nil (P:=P) w t ty e i z ht hi hz ad m c news hr.1 a (by omega) (by omega) (by have hb:=hbytes;simp only[Xa8]at hb;exact Xal (XaY _ (by omega)) hb)
    rw[o]at d
    injection d with e1 e2
    rw[e1]at hb
    simp only[blk,Xan]at hb
    exact .inl (XbY hb)
  ·by_cases f:n+m<=cap
   ·have k:n*i.size+news.length<=cur.size:=by rw[hr.1,hcs,<-Xa2];exact XaY _ f
    have d:=run_append_room (P:=P) w t ty e i ht hi g n cap cur hg ad m c news hr.1 a h1 f k
    rw[o]at d
    injection d with e1 e2
    rw[e1]at hb
    exact .inr hb
   ·have h:∀j u,xs[j]?=some u->w.cell? ((⟨g,0,none⟩:Addr).add j)=some u:=hown.cells (g:=g) rfl
    have d:=run_append_grow (P:=P) w t ty e i z ht hi hz ⟨g,0,none⟩ n cap xs hown.1 h ad m c news hr.1 a (by omega) (by omega) (growslice_fits_wide (by omega) hbytes)
    rw[o]at d
    injection d with e1 e2
    rw[e1]at hb
    simp only[blk,Xan]at hb
    exact .inl (XbY hb)
theorem Xp{n bytes:Nat}(h:n<=1099511627776)(hb:Nat.ble bytes 200=true):(n+n / 4+192)*bytes<=281474976710656:=by
 have a:bytes<=200:=XaT hb
 have b:n+n / 4+192<=1374389534912:=by omega
 exact Xal (Nat.mul_le_mul b a) (by omega)
theorem Qhd{w:World}{base e z n:Nat}{v:Value}{us:List Value}(h:w.ownsRow base e z v n us):v.ownBlock=blk v:=by
 obtain⟨A,c,b,_⟩:=J3 h
 rw[b]
 cases A <;> rfl

section
variable {X:Cx} {σ:AS} {o:Oper} {K:AS->Prop} {t:Nat}
theorem Qyc{v:AV}(hd:o.dst=some t)(ht:Nat.blt t σ.nt=true)(h:∀a w en,J2 X σ a w en->∃u w',(execOp a.eval o).run X.P w=.ok (.value u) w'/\Ext w w'/\v.shows w' en (IM X en w') u)(hK:K (σ.put t v)):OpOk X o σ K:=by
 intro a w i next Q g
 obtain⟨en,b⟩:=i
 obtain⟨u,w',c,e,f⟩:=h a w en b
 unfold Oper.wp
 rw[c,Oper.upon_value,hd]
 exact g _ _ _ hK ⟨en,(b.ext e).put f ht⟩

def AS.low(σ:AS):Option Operand->Option Int
 | none=>some 0
 | some x=>match σ.ev x with
  | .d (.n .i64 p)=>some p
  | _=>none
def AS.high(σ:AS)(n:Nat):Option Operand->Option Int
 | none=>some n
 | some x=>match σ.ev x with
  | .d (.n .i64 p)=>some p
  | _=>none
theorem Qhj{a:Act}{w:World}{en:List Ent}(h:J2 X σ a w en){lo:Option Operand}{i:Nat}(hl:σ.low lo=some (i:Int)):(lo.map a.eval=none/\i=0)\/lo.map a.eval=some (.int .i64 i):=by
 cases lo with
 | none=>
  simp only[AS.low,Xan]at hl
  exact .inl ⟨rfl,by omega⟩
 | some x=>
  simp only[AS.low]at hl
  split at hl
  ·rename_i p b
   injection hl with hl
   subst hl
   obtain⟨F,⟨e,_⟩,_⟩:=QZ h b
   exact .inr (by simp[e])
  ·cases hl
theorem Qdq{a:Act}{w:World}{en:List Ent}(h:J2 X σ a w en){lo:Option Operand}{n i:Nat}(hl:σ.high n lo=some (i:Int)):(lo.map a.eval=none/\i=n)\/lo.map a.eval=some (.int .i64 i):=by
 cases lo with
 | none=>
  simp only[AS.high,Xan]at hl
  exact .inl ⟨rfl,by omega⟩
 | some x=>
  simp only[AS.high]at hl
  split at hl
  ·rename_i p b
   injection hl with hl
   subst hl
   obtain⟨F,⟨e,_⟩,_⟩:=QZ h b
   exact .inr (by simp[e])
  ·cases hl
theorem Qai{P:Program}{w:World}{isS:Bool}{len cap i j:Nat}{lo hi:Option Value}(hlo:(lo=none/\i=0)\/lo=some (.int .i64 i))(hhi:(hi=none/\j=len)\/hi=some (.int .i64 j))(hij:i<=j)(hj:j<=cap) :
  (Instr.sliceBounds isS len cap lo hi none).run P w=.ok (i,j,cap) w:=by
 have b:∀(x y:Nat) (c:BoundsCode) (w:World),x<=y->(Instr.sliceBound (.int .i64 (x:Int)) y c).run P w=.ok x w:=fun x y c w h=>by
  rw[run_sliceBound w .i64 x y c (by omega) (by omega)];simp
 rcases hlo with ⟨rfl,rfl⟩|rfl <;> rcases hhi with ⟨rfl,rfl⟩|rfl <;> simp[Instr.sliceBounds, *]
end

theorem Xz{w:World}:∀{es:List (List D)} {us:List Value} {F:List Nat},repE w es us F->∀u∈us,u.oneCell'=true:=fun h=>Xg h
structure Zi {P:Program} {e:TypeId} (te:TI P e):Prop where
 pos:Nat.blt 0 te.size=true
 zero:Nat.beq te.zero.cells.size te.size=true
 bytes:Nat.ble te.bytes 200=true
section
variable {X:Cx} {σ:AS} {o:Oper} {K:AS->Prop} {t:Nat}
def notN(p:Nat):Nat->Bool:=fun n=>!Nat.beq n p
theorem Qk1{p n:Nat}(h:n≠p):notN p n=true:=by
 unfold notN
 cases hb:Nat.beq n p with
 | false=>rfl
 | true=>exact absurd ((Qi n p).1 hb) h
theorem Xk(p:Nat):notN p p=false:=by unfold notN;rw[(Qi p p).2 rfl];rfl
theorem QdY{ao:AO}{v:AV}(hd:o.dst=some t)(ht:Nat.blt t σ.nt=true)(hf:YR X.fre t σ.ob=true)
  (h:∀a w en,J2 X σ a w en->∃(u:Value) (fs:List Nat) (w':World),(execOp a.eval o).run X.P w=.ok (.value u) w'/\Ext w w'/\
   (∀en',(⟨t,ao,u,fs⟩:Ent)∈en'->v.shows w' en' (IM X en' w') u)/\(∀b,blk u=some b->w.heap.size<=b)/\
   ((∀(b:Nat),Imm X.w0 X.Z X.O en w b->Imm X.w0 X.Z X.O (⟨t,ao,u,fs⟩::JM (fun _=>true) t en) w' b)->
    (∀(y:AV) (q:Value),y.shows w en (IM X en w) q->y.shows w' (⟨t,ao,u,fs⟩::JM (fun _=>true) t en) (IM X (⟨t,ao,u,fs⟩::JM (fun _=>true) t en) w') q)->
    EntOk X.P (Frs X.w0 X.O) w' (⟨t,ao,u,fs⟩::JM (fun _=>true) t en) (IM X (⟨t,ao,u,fs⟩::JM (fun _=>true) t en) w') ⟨t,ao,u,fs⟩)/\
   (ao.deep=true->fs=[]))
  (hK:K ⟨σ.nt,(t,v)::σ.sl,(t,ao)::Y5 t σ.ob⟩):OpOk X o σ K:=by
 intro a w s next Q r
 obtain⟨en,d⟩:=s
 obtain⟨u,fs,w',k,c,l,m,n,j⟩:=h a w en d
 have f:∀x∈en,x.nm≠t:=fun x c e=>by
  have:hasN t σ.ob=true:=Jf.2 ⟨x.key,d.ob.mem_iff.1 (Xaf.2 ⟨x,c,rfl⟩),e⟩
  rw[(Ja hf).1]at this;cases this
 have g:Qfw X.P X.w0 X.Z X.O en w w' t ⟨t,ao,u,fs⟩ (fun _=>true):=
  ⟨d.mem,fun _ _=>rfl,fun _ x c e=>absurd e (f x c),c.os,c.tape,c.output,c.size,fun b hb _=>c.block b hb,fun b hb=>by
   rcases hb with hb|⟨hd,hb⟩
   ·exact .inl (m b hb)
   ·exact absurd hb (by rw[j hd];simp),rfl,X.Z.lo _ _ (Ja hf).2⟩
 have p:=d.swap_keep g (n (fun b hb=>g.imm hb) (fun y q hy=>by have:=g.shows hy;rwa [AV.cut_true]at this)) (fun hd y hy _ hdy b hb=>absurd hb (by rw[show(⟨t,ao,u,fs⟩:Ent).fs=[] from j hd];simp))
 unfold Oper.wp
 rw[k,Oper.upon_value,hd]
 exact r _ _ _ hK ⟨_,p.put (l _ Xac) ht⟩
def Qkl(size:Nat):List AV->List (Nat×AV)->Option (List AV)
 | cs,[]=>some cs
 | cs,(i,v)::rest=>match v.cellsV with
  | some xs=>bif Nat.beq xs.length size then(bif Nat.ble (i*size+size) cs.length then Zf (splice cs (i*size) xs) (fun cs'=>Qkl size cs' rest)else none)else none
  | none=>none
theorem QcK{α:Type}{xs ys:List α}{k:Nat}(h:k+ys.length<=xs.length)(j:Nat):(splice xs k ys)[j]?=if k<=j/\j<k+ys.length then ys[j-k]? else xs[j]?:=by
 unfold splice
 have c:(xs.take k).length=k:=by simp;omega
 by_cases a:j<k
 ·rw[if_neg (by omega),Xaq,List.getElem?_append_left (by omega),List.getElem?_take,if_pos a]
 ·rw[Xaq,List.getElem?_append_right (by omega),c]
  by_cases b:j<k+ys.length
  ·rw[if_pos ⟨by omega,b⟩,List.getElem?_append_left (by omega)]
  ·rw[if_neg (by omega),List.getElem?_append_right (by omega),List.getElem?_drop]
   congr 1
   omega
theorem Qc0(off:Nat)(l:List Value)(cs:Array Value)(s:Nat)(h:off+s+l.length<=cs.size) :
  ((l.zipIdx s).foldl (fun cs (x:Value×Nat)=>cs.setIfInBounds (off+x.2) x.1) cs).toList=splice cs.toList (off+s) l:=by
 obtain⟨h1,a⟩:=Great.foldl_set off l s cs
 apply List.ext_getElem?
 intro k
 rw[QcK (by simpa using h),Array.getElem?_toList,Array.getElem?_toList,a k]
 by_cases c:off+s<=k/\k<off+s+l.length
 ·rw[if_pos ⟨c.1,c.2,by omega⟩,if_pos c]
  simp
 ·rw[if_neg (fun q=>c ⟨q.1,q.2.1⟩),if_neg c]
  simp
theorem Qdw{w:World}{en:List Ent}{P:Program}{w0:World}{f:Nat->Bool}{Z:ZV f}{O:Nat->Prop}(hm:Mem P w0 Z O en w){size:Nat}:∀{parts:List (Nat×AV)} {vs:List (Nat×Value)} {cs cs':List AV} {cells:Array Value},Qkl size cs parts=some cs'->
  Qm w en (Imm w0 Z O en w) cs cells.toList->(∀u∈cells.toList,u.oneCell'=true)->vs.map Prod.fst=parts.map Prod.fst->Qm w en (Imm w0 Z O en w) (parts.map Prod.snd) (vs.map Prod.snd)->
  ∃r,Instr.fill (fun i=>some (i*size,size)) cells vs=some r/\Qm w en (Imm w0 Z O en w) cs' r.toList/\∀u∈r.toList,u.oneCell'=true
 | [],vs,cs,cs',cells,hf,hc,h1,hv,_=>by
  injection hf with hf
  subst hf
  obtain rfl:vs=[]:=by simpa using hv
  exact⟨cells,rfl,hc,h1⟩
 | (i,x)::parts,vs,cs,cs',cells,hf,hc,h1,hv,hs=>by
  simp only[Qkl]at hf
  match vs,hv,hs with
  | (i',v)::vs,hv,hs=>
   simp only[Xat,Xbz]at hv
   obtain⟨rfl,hv2⟩:=hv
   obtain⟨u,us',e0,h2,h3⟩:=hs
   simp only[Xat,Xbz]at e0
   obtain⟨rfl,rfl⟩:=e0
   split at hf
   ·rename_i xs hx
    cases b1:Nat.beq xs.length size with
    | false=>rw[b1]at hf;cases hf
    | true=>
     cases b2:Nat.ble (i'*size+size) cs.length with
     | false=>rw[b1,b2]at hf;cases hf
     | true=>
      rw[b1,b2]at hf
      simp only[cond_true,YE]at hf
      obtain⟨h4,h5⟩:=Wn hm hx h2
      have hsz:v.cells.size=size:=by rw[<-XaF,QF h4];exact(Qi _ _).1 b1
      have hcl:cells.size=cs.length:=by rw[<-XaF];exact QF hc
      have hfit:i'*size+size<=cells.size:=by rw[hcl];exact XaT b2
      have hfold:(v.cells.zipIdx.foldl (fun cs (x:Value×Nat)=>cs.setIfInBounds (i'*size+x.2) x.1) cells).toList=splice cells.toList (i'*size) v.cells.toList:=by
       rw[<-Array.foldl_toList,Array.toList_zipIdx]
       have h0:=Qc0 (i'*size) v.cells.toList cells 0 (by simp;omega)
       rw[XbL]at h0
       exact h0
      have g1:=ZT hc h4 (i'*size)
      rw[<-hfold]at g1
      have g2:∀u∈(v.cells.zipIdx.foldl (fun cs (x:Value×Nat)=>cs.setIfInBounds (i'*size+x.2) x.1) cells).toList,u.oneCell'=true:=by
       rw[hfold]
       intro u hu
       simp only[splice,Xag]at hu
       rcases hu with (hu|hu)|hu
       ·exact h1 u (XaC hu)
       ·exact h5 u hu
       ·exact h1 u (XaN hu)
      obtain⟨r,r1,r2,r3⟩:=Qdw hm hf g1 g2 hv2 h3
      refine⟨r,?_,r2,r3⟩
      unfold Instr.fill
      simp only[hsz]
      rw[if_neg (by simp;omega)]
      exact r1
   ·cases hf
def WU:List AV->Option (List D)
 | []=>some []
 | .d x::l=>match WU l with
  | some ds=>some (x::ds)
  | none=>none
 | .nil::l=>match WU l with
  | some ds=>some (.sl []::ds)
  | none=>none
 | _::_=>none
theorem Wu{w:World}{en:List Ent}{I:Nat->Prop}:∀{xs:List AV} {ds:List D} {us:List Value},WU xs=some ds->Qm w en I xs us->∃F,repL w ds us F/\∀b∈F,I b
 | [],ds,us,h,hs=>by
  injection h with h;subst h
  exact⟨[],⟨hs,rfl⟩,by simp⟩
 | x::xs,ds,us,h,hs=>by
  obtain⟨u,us',rfl,h1,h2⟩:=hs
  cases x with
  | d y=>
   simp only[WU]at h
   split at h
   ·rename_i ds' hd
    injection h with h;subst h
    obtain⟨F2,k1,k2⟩:=Wu hd h2
    obtain⟨F1,k3,k4⟩:=h1
    exact⟨F1++F2,⟨u,us',F1,F2,rfl,rfl,k3,k1⟩,fun b hb=>(Xag.1 hb).elim (k4 b) (k2 b)⟩
   ·cases h
  | nil=>
   simp only[WU]at h
   split at h
   ·rename_i ds' hd
    injection h with h;subst h
    obtain⟨F2,k1,k2⟩:=Wu hd h2
    refine⟨F2,⟨u,us',[],F2,rfl,rfl,?_,k1⟩,k2⟩
    rw[show u=.slice none 0 0 from h1]
    exact⟨none,0,0,[],[],rfl,Xaj _,Xad _,fun _=>rfl,by simp,⟨rfl,rfl⟩,.inl ⟨rfl,rfl⟩⟩
   ·cases h
  | _=>cases h
theorem Za:∀{cs:List AV} {ds:List D},WU cs=some ds->cs.length=ds.length
 | [],ds,h=>by injection h with h;subst h;rfl
 | x::cs,ds,h=>by
  cases x with
  | d y=>
   simp only[WU]at h
   split at h
   ·rename_i ds' hd
    injection h with h;subst h
    simp[Za hd]
   ·cases h
  | nil=>
   simp only[WU]at h
   split at h
   ·rename_i ds' hd
    injection h with h;subst h
    simp[Za hd]
   ·cases h
  | _=>cases h
def chunk(z:Nat):Nat->List D->List (List D)
 | 0,_=>[]
 | n+1,l=>l.take z::chunk z n (l.drop z)
theorem QdB{w:World}{z:Nat}:∀{n:Nat} {ds:List D} {us:List Value} {F:List Nat},ds.length=n*z->repL w ds us F->repE w (chunk z n ds) us F/\lenE (chunk z n ds) z/\(chunk z n ds).length=n
 | 0,ds,us,F,hl,h=>by
  have:ds=[]:=XaD (by simpa using hl)
  subst this
  exact⟨h,(fun e he=>by cases he),rfl⟩
 | n+1,ds,us,F,hl,h=>by
  rw[Xa2,Xcb]at hl
  rw[<-XaK z ds]at h
  obtain⟨u1,u2,F1,F2,rfl,rfl,k1,k2⟩:=Qct h
  obtain⟨g1,g2,g3⟩:=QdB (z:=z) (n:=n) (by simp;omega) k2
  refine⟨⟨u1,u2,F1,F2,rfl,rfl,k1,g1⟩,fun e he=>?_,by simp[chunk,g3]⟩
  rcases Xai.1 he with rfl|he
  ·simp;omega
  ·exact g2 e he
def Xq{α:Type}:List D->(List D->Option α)->Option α
 | [],k=>k []
 | x::xs,k=>match x with
  | .n t v=>Xq xs fun ys=>k (.n t v::ys)
  | .b v=>Xq xs fun ys=>k (.b v::ys)
  | .s v=>Xq xs fun ys=>k (.s v::ys)
  | .sl v=>Xq xs fun ys=>k (.sl v::ys)
  | .un=>Xq xs fun ys=>k (.un::ys)
theorem Qbu{α:Type}:∀(xs:List D) (k:List D->Option α),Xq xs k=k xs
 | [],k=>rfl
 | x::xs,k=>by cases x <;> rw[Xq,Qbu xs]
def QeB{α:Type}:List (List D)->(List (List D)->Option α)->Option α
 | [],k=>k []
 | e::es,k=>Xq e fun e'=>QeB es fun es'=>k (e'::es')
theorem Qbr{α:Type}:∀(es:List (List D)) (k:List (List D)->Option α),QeB es k=k es
 | [],k=>rfl
 | e::es,k=>by rw[QeB,Qbu,Qbr es]
def AS.evParts(σ:AS):List (Nat×Operand)->List (Nat×AV)
 | []=>[]
 | (i,x)::l=>(i,σ.ev x)::σ.evParts l
theorem Zw{a:Act}{w:World}{en:List Ent}(h:J2 X σ a w en):∀(l:List (Nat×Operand)),(l.map fun x=>(x.1,a.eval x.2)).map Prod.fst=(σ.evParts l).map Prod.fst/\Qm w en (IM X en w) ((σ.evParts l).map Prod.snd) ((l.map fun x=>(x.1,a.eval x.2)).map Prod.snd)
 | []=>⟨rfl,rfl⟩
 | (i,x)::l=>by
  obtain⟨h1,h2⟩:=Zw h l
  refine⟨by simp only[AS.evParts,Xat,h1],_,_,rfl,AS.ev_shows h x,h2⟩
def Qgl(z:Value):Nat->List AV
 | 0=>[]
 | n+1=>Z6 z++Qgl z n
theorem X3{w:World}{en:List Ent}{I:Nat->Prop}(z:Value):∀(n:Nat),Qm w en I (Qgl z n) (List.replicate n z.cells.toList).flatten
 | 0=>rfl
 | n+1=>by
  rw[List.replicate_succ,XbJ]
  exact Yg (Wm _) (X3 z n)
theorem Qfo{z:Value}(h:z.cells.toList.all Value.oneCell'=true):∀(n:Nat),∀u∈(List.replicate n z.cells.toList).flatten,u.oneCell'=true:=by
 intro n u a
 rw[List.mem_flatten]at a
 obtain⟨l,b,a⟩:=a
 rw[Xby b]at a
 exact Xaw.1 h u a
end

theorem WZ{w:World}{e:List D}{us:List Value}(h:repL w e us []):∀(n:Nat),repE w (List.replicate n e) (List.replicate n us).flatten []
 | 0=>⟨rfl,rfl⟩
 | n+1=>⟨us,(List.replicate n us).flatten,[],[],rfl,rfl,h,WZ h n⟩
section
variable {X:Cx} {σ:AS} {o:Oper} {K:AS->Prop} {t:Nat}
theorem QdU{α:Type}{u1 u2 ys:List α}{k:Nat}(h:k+ys.length<=u1.length):splice (u1++u2) k ys=splice u1 k ys++u2:=by
 unfold splice
 rw[Xa5 (by omega),XbI h,Xaq,Xaq,Xaq]
theorem QcO{α:Type}{u1 u2 ys:List α}{k:Nat}:splice (u1++u2) (u1.length+k) ys=u1++splice u2 k ys:=by
 unfold splice
 rw[XbZ,XbD,List.drop_length_add_append,Xaq,Xaq,Xaq]
theorem Jz{α:Type}{xs ys:List α}{k:Nat}(h:k+ys.length<=xs.length):(splice xs k ys).length=xs.length:=by
 unfold splice
 simp only[Xaa,Xah,XaL]
 omega
theorem Qd4{α:Type}{xs ys:List α}{k n:Nat}(h:k+ys.length<=n):(splice xs k ys).take n=splice (xs.take n) k ys:=by
 unfold splice
 apply List.ext_getElem?
 intro j
 simp only[Xaq,List.getElem?_take,List.getElem?_append,Xah,List.getElem?_drop]
 by_cases b:j<n
 ·rw[if_pos b]
  by_cases hx:n<=xs.length
  ·have a:min k (min n xs.length)=min k xs.length:=by omega
   rw[a]
   repeat' split
   all_goals first|rfl|omega|(congr 1;omega)
  ·have a:min k (min n xs.length)=min k xs.length:=by omega
   rw[a]
   repeat' split
   all_goals first|rfl|omega|(congr 1;omega)|(rw[List.getElem?_eq_none (by omega)])
 ·rw[if_neg b]
  repeat' split
  all_goals first|rfl|omega
theorem Qe8{w:World}:∀{ds:List D} {us:List Value} {F:List Nat},repL w ds us F->∀k,∃G,repL w (ds.take k) (us.take k) G/\∀b∈G,b∈F
 | [],us,F,h,k=>by obtain⟨rfl,rfl⟩:=h;exact⟨[],by simp[repL],by simp⟩
 | d::ds,us,F,h,k=>by
  cases k with
  | zero=>exact⟨[],by simp[repL],by simp⟩
  | succ k=>
   obtain⟨u,us',F1,F2,rfl,rfl,h1,h2⟩:=h
   obtain⟨G,h3,h4⟩:=Qe8 h2 k
   refine⟨F1++G,⟨u,us'.take k,F1,G,by simp,rfl,h1,h3⟩,fun b hb=>?_⟩
   rcases Xag.1 hb with hb|hb
   ·exact Xau _ hb
   ·exact Xax _ (h4 b hb)
theorem Qgd{G:List Nat}(h:∀b∈G,b∈([]:List Nat)):G=[]:=by
 cases G with
 | nil=>rfl
 | cons a l=>have:=h a Xac;cases this
theorem QkI{w:World}{ds el:List D}{us vs:List Value}(h:repL w el us [])(h':repL w ds vs [])(k:Nat):repL w (splice el k ds) (splice us k vs) []:=by
 have e:=QS h'
 unfold splice
 obtain⟨G1,c,a⟩:=Qe8 h k
 obtain⟨G2,d,b⟩:=XK h (k+ds.length)
 have:=Qgd a;subst this
 have:=Qgd b;subst this
 rw[e]
 have:=YG (YG c h') d
 simpa using this
theorem Ql7{w:World}{z:Nat}:∀{es:List (List D)} {us:List Value} {F:List Nat} {i off:Nat} {el ds:List D} {vs:List Value},repE w es us F->(∀e∈es,e.length=z)->es[i]?=some el->el.all D.flat=true->repL w ds vs []->off+ds.length<=z->
  repE w (es.set i (splice el off ds)) (splice us (i*z+off) vs) F
 | [],us,F,i,off,el,ds,vs,_,_,hi,_,_,_=>by simp at hi
 | e::es,us,F,i,off,el,ds,vs,h,hz,hi,hfl,h',hle=>by
  obtain⟨u1,u2,F1,F2,rfl,rfl,k1,k2⟩:=h
  have hl1:u1.length=z:=by rw[QS k1];exact hz e Xac
  have hvl:=QS h'
  cases i with
  | zero=>
   simp only[List.getElem?_cons_zero,Xan]at hi
   subst hi
   have hF1:=Yk k1 hfl
   subst hF1
   rw[Xcf,Xbq,Xa8,QdU (by omega)]
   exact⟨_,_,[],F2,rfl,rfl,QkI k1 h' off,k2⟩
  | succ i=>
   simp only[List.getElem?_cons_succ]at hi
   have e1:(i+1)*z+off=u1.length+(i*z+off):=by rw[hl1,Xa2];omega
   rw[Xcz,e1,QcO]
   exact⟨_,_,F1,F2,rfl,rfl,k1,Ql7 k2 (fun x hx=>hz x (Xae _ hx)) hi hfl h' hle⟩
theorem NstL.setA{P:Program}{w:World}{z i off:Nat}{es:List (List D)}{us vs:List Value}{el ds:List D}(h:NstL P w es.flatten us)(hul:us.length=es.length*z)(hz:∀e∈es,e.length=z)(hel:es[i]?=some el)(hfe:el.all D.flat=true)(hfd:NstL P w ds vs)(hvl:vs.length=ds.length)(hle:off+ds.length<=z) :
  NstL P w (es.set i (splice el off ds)).flatten (splice us (i*z+off) vs):=fun j q u hj hu hne=>by
 have f:=(List.getElem?_eq_some_iff.1 hel).1
 have d:el.length=z:=hz el (List.mem_of_getElem? hel)
 have k:∀e∈es.set i (splice el off ds),e.length=z:=fun e he=>by
  rcases XbN he with he|rfl
  ·exact hz e he
  ·rw[Jz (by omega)];exact d
 have p:i*z+z<=es.length*z:=by
  have:(i+1)*z<=es.length*z:=XaY _ (by omega)
  rwa [Xa2,Xcb]at this
 by_cases b:z=0
 ·have h0:us.length=0:=by rw[hul,b,Nat.mul_zero]
  have o:(splice us (i*z+off) vs).length=us.length:=Jz (by omega)
  have:=(List.getElem?_eq_some_iff.1 hu).1
  omega
 have b:0<z:=by omega
 rw[Qg9 b k]at hj
 rw[QcK (by omega)]at hu
 by_cases a:j / z=i
 ·rw[a,List.getElem?_set_self f,Xbi,QcK (by omega)]at hj
  have g:=Nat.div_add_mod j z
  rw[a,XcO]at g
  by_cases c:off<=j % z/\j % z<off+ds.length
  ·rw[if_pos c]at hj
   rw[if_pos (by omega),show j-(i*z+off)=j % z-off by omega]at hu
   exact hfd _ q u hj hu hne
  ·rw[if_neg c]at hj
   have l:(D.sl q).flat=true:=Xaw.1 hfe _ (List.mem_of_getElem? hj)
   exact absurd (by simpa [D.flat] using l) hne
 ·rw[List.getElem?_set_ne (fun e=>a e.symm),<-Qg9 b hz]at hj
  refine h j q u hj ?_ hne
  rw[if_neg]at hu
  ·exact hu
  ·intro⟨o,l⟩
   apply a
   have m:i*z<=j:=by omega
   have n:j<(i+1)*z:=by rw[Xa2,Xcb];omega
   exact Nat.div_eq_of_lt_le m n
theorem NstL.flat{P:Program}{w:World}{ds:List D}{us:List Value}(h:ds.all D.flat=true):NstL P w ds us:=fun j es u hj _ hne=>by
 have a:=Xaw.1 h _ (List.mem_of_getElem? hj)
 exact absurd (by simpa [D.flat] using a) hne
theorem NstL.set{P:Program}{w:World}{z i off:Nat}{es:List (List D)}{us vs:List Value}{el ds:List D}(h:NstL P w es.flatten us)(hul:us.length=es.length*z)(hz:∀e∈es,e.length=z)(hel:es[i]?=some el)(hfe:el.all D.flat=true)(hfd:ds.all D.flat=true)(hvl:vs.length=ds.length)(hle:off+ds.length<=z) :
  NstL P w (es.set i (splice el off ds)).flatten (splice us (i*z+off) vs):=h.setA hul hz hel hfe (.flat hfd) hvl hle
theorem Qx7{x:Operand}{p i off:Nat}{e:TypeId}{es:List (List D)}{dp:Bool}{el:List D}(hx:σ.ev x=.pr p i off)(hp:Qn σ.ob p=some (.row e es dp))(hel:es[i]?=some el)(hfl:(bif dp then el.all D.flat else true)=true):σ.at (σ.ev x)=some ((el.drop off).map AV.d):=by
 rw[hx]
 simp only[AS.at,hp,hel,hfl,cond_true]
end

mutual
def AV.frz(p:Nat)(es:List (List D)):AV->AV
 | .row o=>bif Nat.beq o p then .d (.sl es)else .row o
 | .pr o i off=>bif Nat.beq o p then .any else .pr o i off
 | .ptr o off=>bif Nat.beq o p then .any else .ptr o off
 | .agg xs=>.agg (frzL p es xs)
 | .tup xs=>.tup (frzL p es xs)
 | .clo g xs=>.clo g (frzL p es xs)
 | .sub o i j=>bif Nat.beq o p then .d (.sl ((es.take j).drop i))else .sub o i j
 | x=>x
def frzL(p:Nat)(es:List (List D)):List AV->List AV
 | []=>[]
 | x::xs=>x.frz p es::frzL p es xs
end
def AO.frz(p:Nat)(es:List (List D)):AO->AO
 | .box e cs=>.box e (frzL p es cs)
 | x=>x
def AS.frz(σ:AS)(p:Nat)(es:List (List D)):AS:=⟨σ.nt,σ.sl.map fun y=>(y.1,y.2.frz p es),(Y5 p σ.ob).map fun y=>(y.1,y.2.frz p es)⟩
theorem AO.frz_isRow(p:Nat)(es:List (List D))(x:AO):(x.frz p es).isRow=x.isRow:=by cases x <;> rfl
theorem AO.frz_lens(p:Nat)(es:List (List D))(x:AO):(x.frz p es).lens=x.lens:=by cases x <;> rfl
theorem AO.frz_deep(p:Nat)(es:List (List D))(x:AO):(x.frz p es).deep=x.deep:=by cases x <;> rfl
theorem Qc3{a b:Nat}(h:a≠b):Nat.beq a b=false:=by
 cases hb:Nat.beq a b with
 | false=>rfl
 | true=>exact absurd ((Qi a b).1 hb) h
section
variable {w:World} {en en':List Ent} {I I':Nat->Prop} {p:Nat} {es:List (List D)}
mutual
theorem AV.shows_frz(hI:∀b,I b->I' b)(hp:∀x∈en,x.nm=p->∃F,(D.sl es).rep w x.val F/\∀b∈F,I' b)(hpl:∀x∈en,x.nm=p->x.ao.lens=es.map List.length)(he:∀x∈en,x.nm≠p->∃y∈en',Like x y):∀(x:AV) (u:Value),x.shows w en I u->(x.frz p es).shows w en' I' u
 | .any,_,_=>trivial
 | .d x,u,h=>by
  obtain⟨F,h1,h2⟩:=h
  exact⟨F,h1,fun b hb=>hI b (h2 b hb)⟩
 | .nil,_,h=>h
 | .row o,u,h=>by
  obtain⟨x,hx,rfl,h1,rfl⟩:=h
  simp only[AV.frz]
  by_cases ho:x.nm=p
  ·rw[(Qi _ _).2 ho]
   exact hp x hx ho
  ·rw[Qc3 ho]
   obtain⟨y,hy,l1,l2,l3,l4⟩:=he x hx ho
   exact⟨y,hy,l1,by rw[l3];exact h1,l2.symm⟩
 | .ptr o off,u,h=>by
  obtain⟨x,hx,rfl,h1,g,h2,h3⟩:=h
  simp only[AV.frz]
  by_cases ho:x.nm=p
  ·rw[(Qi _ _).2 ho]
   trivial
  ·rw[Qc3 ho]
   obtain⟨y,hy,l1,l2,l3,l4⟩:=he x hx ho
   exact⟨y,hy,l1,by rw[l3];exact h1,g,by rw[l2];exact h2,h3⟩
 | .pr o i off,u,h=>by
  obtain⟨x,hx,rfl,h1,g,z,h2,h3,h4,h5⟩:=h
  simp only[AV.frz]
  by_cases ho:x.nm=p
  ·rw[(Qi _ _).2 ho]
   trivial
  ·rw[Qc3 ho]
   obtain⟨y,hy,l1,l2,l3,l4⟩:=he x hx ho
   exact⟨y,hy,l1,by rw[l3];exact h1,g,z,by rw[l2];exact h2,by rw[l4];exact h3,by rw[l4];exact h4,h5⟩
 | .pd e off,u,h=>by
  obtain⟨b,o,us,F,h1,h2,h3,h4,h5⟩:=h
  exact⟨b,o,us,F,h1,h2,h3,hI b h4,fun c hc=>hI c (h5 c hc)⟩
 | .agg xs,u,h=>by
  obtain⟨us,h1,h2⟩:=h
  exact⟨us,h1,ZJ hI hp hpl he xs us h2⟩
 | .tup xs,u,h=>by
  obtain⟨us,h1,h2⟩:=h
  exact⟨us,h1,ZJ hI hp hpl he xs us h2⟩
 | .clo g xs,u,h=>by
  obtain⟨us,h1,h2⟩:=h
  exact⟨us,h1,ZJ hI hp hpl he xs us h2⟩
 | .sub o i j,u,h=>by
  obtain⟨x,hx,rfl,h1,h2,A,n,c,z,h3,h4,rfl⟩:=h
  simp only[AV.frz]
  by_cases ho:x.nm=p
  ·rw[(Qi _ _).2 ho]
   obtain⟨F,f1,f2⟩:=hp x hx ho
   have hes:=hpl x hx ho
   rw[h3]at f1
   obtain⟨F',f3,f4⟩:=Qpn (z:=z) (i:=i) (j:=j) f1 (fun e he=>h4 e.length (by rw[hes];exact Xaf.2 ⟨e,he,rfl⟩)) h2.1 (by rw[hes,XaB]at h2;exact h2.2)
   exact⟨F',f3,fun b hb=>f2 b (f4 b hb)⟩
  ·rw[Qc3 ho]
   obtain⟨y,hy,l1,l2,l3,l4⟩:=he x hx ho
   exact⟨y,hy,l1,by rw[l3];exact h1,by rw[l4];exact h2,A,n,c,z,by rw[l2];exact h3,by rw[l4];exact h4,rfl⟩
theorem ZJ(hI:∀b,I b->I' b)(hp:∀x∈en,x.nm=p->∃F,(D.sl es).rep w x.val F/\∀b∈F,I' b)(hpl:∀x∈en,x.nm=p->x.ao.lens=es.map List.length)(he:∀x∈en,x.nm≠p->∃y∈en',Like x y):∀(xs:List AV) (us:List Value),Qm w en I xs us->Qm w en' I' (frzL p es xs) us
 | [],_,h=>h
 | x::xs,us,h=>by
  obtain⟨u,us',h1,h2,h3⟩:=h
  exact⟨u,us',h1,AV.shows_frz hI hp hpl he x u h2,ZJ hI hp hpl he xs us' h3⟩
end
end
theorem QmO(p:Nat)(es:List (List D)):∀(sl:List (Nat×AV)) (t:Nat),look (sl.map fun y=>(y.1,y.2.frz p es)) t=(look sl t).frz p es
 | [],_=>rfl
 | (k,x)::l,t=>by
  rw[Xat,Q1,Q1,QmO p es l t]
  split <;> rfl
theorem J2.frz{X:Cx}{σ:AS}{a:Act}{w:World}{en:List Ent}(h:J2 X σ a w en){p:Nat}{e:TypeId}{es:List (List D)}{dp:Bool}(hp:Qn σ.ob p=some (.row e es dp)) :
  J2 X (σ.frz p es) a w ((en.filter fun y=>y.nm != p).map fun y=>{ y with ao:=y.ao.frz p es }):=by
 have m:=h.mem
 let g:Ent->Ent:=fun y=>{ y with ao:=y.ao.frz p es }
 have c:∀{y:Ent},y∈(en.filter fun y=>y.nm != p).map g->∃z∈en,z.nm≠p/\y=g z:=by
  intro y i
  simp only[Xaf,Xay,bne_iff_ne]at i
  obtain⟨z,⟨f,v⟩,rfl⟩:=i
  exact⟨z,f,v,rfl⟩
 obtain⟨y0,ac,r,k,F0,ag,ah⟩:=QbM h hp
 have j:∀(z:Ent) (b:Nat),(g z).hd b↔z.hd b:=fun z b=>by
  unfold Ent.hd
  rw[show(g z).ao.deep=z.ao.deep from AO.frz_deep p es z.ao]
  try exact Iff.rfl
 have hI:∀b,Imm X.w0 X.Z X.O en w b->Imm X.w0 X.Z X.O ((en.filter fun y=>y.nm != p).map g) w b:=fun b hb=>⟨hb.1,hb.2.1,fun y i=>by
  obtain⟨z,l,_,rfl⟩:=c i
  exact fun h=>hb.2.2 z l ((j z b).1 h)⟩
 have ab:∀x∈en,x.nm=p->∃F,(D.sl es).rep w x.val F/\∀b∈F,Imm X.w0 X.Z X.O ((en.filter fun y=>y.nm != p).map g) w b:=fun x hx hn=>by
  have:=m.ent_unique hx ac (hn.trans r.symm)
  subst this
  refine⟨F0,ag,fun b hb=>?_⟩
  rcases ah b hb with f|f
  ·have d:=m.ok x hx
   unfold EntOk at d
   rw[k]at d
   obtain⟨_,_,_,_,_,_,_,k5,_,k7⟩:=d
   cases dp with
   | false=>exact hI b (k5 rfl b f)
   | true=>
    refine⟨.inr ((k7 rfl).2.1 b f).1,((k7 rfl).2.1 b f).2.1,fun y i=>?_⟩
    obtain⟨z,l,n,rfl⟩:=c i
    exact fun hq=>m.hd_ne hx l (fun e=>n (e.symm.trans hn)) (.inr ⟨by rw[k];rfl,f⟩) ((j z b).1 hq)
  ·obtain⟨l1,l2⟩:=(m.ok x hx).lt f
   refine⟨.inr l2,l1,fun y i=>?_⟩
   obtain⟨z,l,n,rfl⟩:=c i
   exact fun hq=>m.hd_ne hx l (fun e=>n (e.symm.trans hn)) (.inl f) ((j z b).1 hq)
 have aa:∀x∈en,x.nm=p->x.ao.lens=es.map List.length:=fun x hx hn=>by
  have:=m.ent_unique hx ac (hn.trans r.symm)
  subst this
  rw[k];rfl
 have hl:∀x∈en,x.nm≠p->∃y∈(en.filter fun y=>y.nm != p).map g,Like x y:=fun x hx hn=>
  ⟨g x,by simp only[Xaf,Xay,bne_iff_ne];exact⟨x,⟨hx,hn⟩,rfl⟩,rfl,rfl,AO.frz_isRow p es x.ao,AO.frz_lens p es x.ao⟩
 refine⟨⟨m.os,m.tape,m.output,m.size,m.old,?_,?_,?_,?_,fun y i=>by
  obtain⟨z,l,_,rfl⟩:=c i
  exact m.fix z l⟩,?_,h.defers,h.size,fun t=>?_⟩
 ·have:((en.filter fun y=>y.nm != p).map g).map Ent.nm=(en.filter fun y=>y.nm != p).map Ent.nm:=by simp only[XaV];rfl
  rw[this]
  exact Xbu (XbH _ XaE) m.names
 ·exact Xa1 _ (fun x y hxy b f v=>hxy b ((j x b).1 f) ((j y b).1 v)) (Xa4 XaE m.blks)
 ·intro y i
  obtain⟨z,l,n,rfl⟩:=c i
  have d:=m.ok z l
  unfold EntOk at d
  split at d
  ·rename_i e' aw ar u
   obtain⟨s,us,k0,k1,k2,k3,k4,k5,k6,k7⟩:=d
   unfold EntOk
   simp only[g,u,AO.frz]
   exact⟨s,us,k0,k1,k2,k3,k4,fun hd b hb=>hI b (k5 hd b hb),k6,k7⟩
  ·rename_i e' cs u
   obtain⟨k0,q,af,k1,k2,k3,k4⟩:=d
   unfold EntOk
   simp only[g,u,AO.frz]
   exact⟨k0,q,af,k1,k2,k3,ZJ hI ab aa hl cs _ k4⟩
 ·refine Xa1 _ (fun x y hxy f v=>?_) (Xa4 XaE m.apart)
  exact hxy (by rw[<-AO.frz_deep p es];exact f) (by rw[<-AO.frz_deep p es];exact v)
 ·have e1:((en.filter fun y=>y.nm != p).map g).map Ent.key=((en.map Ent.key).filter fun y=>y.1 != p).map fun y=>(y.1,y.2.frz p es):=by
   simp only[XaV,XbP]
   rfl
  show(((en.filter fun y=>y.nm != p).map g).map Ent.key).Perm ((Y5 p σ.ob).map fun y=>(y.1,y.2.frz p es))
  rw[e1]
  exact(h.ob.filter _).map _
 ·simp only[AS.frz,QmO]
  exact AV.shows_frz hI ab aa hl _ _ (h.slots t)
section
variable {X:Cx} {σ:AS} {o:Oper} {K:AS->Prop} {Q:Exit->AS->Prop} {t:Nat}
theorem Qr(p:Nat){e:TypeId}{es:List (List D)}{dp:Bool}{c:Code}(hp:Qn σ.ob p=some (.row e es dp))(h:AWp X c Q (σ.frz p es)):AWp X c Q σ:=fun a w ⟨_,hr⟩=>h a w ⟨_,hr.frz hp⟩

def QK(l:List UInt8):List (List D):=l.map fun b=>[.n .u8 (b.toNat:Int)]
theorem Qas(w:World):∀(l:List UInt8),repE w (QK l) (l.map fun(b:UInt8)=>Value.int .u8 (b.toNat:Int)) []
 | []=>⟨rfl,rfl⟩
 | b::l=>⟨[.int .u8 (b.toNat:Int)],l.map fun(b:UInt8)=>Value.int .u8 (b.toNat:Int),[],[],rfl,rfl,⟨.int .u8 (b.toNat:Int),[],[],[],rfl,rfl,⟨rfl,rfl⟩,rfl,rfl⟩,Qas w l⟩
theorem Xj{w:World}:∀{l:List UInt8} {us:List Value} {F:List Nat},repE w (QK l) us F->us=l.map fun b=>.int .u8 (b.toNat:Int)
 | [],us,F,h=>h.1
 | b::l,us,F,h=>by
  obtain⟨u1,u2,F1,F2,rfl,rfl,k1,k2⟩:=h
  obtain⟨u,us',G1,G2,rfl,rfl,⟨rfl,rfl⟩,k3⟩:=k1
  rw[k3.1,Xj k2]
  rfl
def Qyf:TypeDesc->Bool
 | .int .u8=>true
 | _=>false
def Qs5(X:Cx)(T:TypeId):Bool:=match X.tt T with
 | some ti=>Qyf ti.desc
 | none=>false
theorem Qed{T:TypeId}(h:Qs5 X T=true):X.P.underlying T=some (.int .u8):=by
 unfold Qs5 at h
 split at h
 ·rename_i b _
  unfold Qyf at h
  split at h
  ·rename_i a
   exact a▸b.und
  ·cases h
 ·cases h
theorem QiU{v:Int}(h:0<=v/\v<=255):[[D.n .u8 v]]=QK [UInt8.ofNat v.toNat]:=by
 have:((UInt8.ofNat v.toNat).toNat:Int)=v:=by simp;omega
 rw[QK,Xat,Xbl,this]
def intD:TypeDesc->Option IntKind
 | .int k=>some k
 | _=>none
def intT(X:Cx)(T:TypeId):Option IntKind:=match X.tt T with
 | some ti=>intD ti.desc
 | none=>none
def hasT(X:Cx)(T:TypeId):Bool:=match X.tt T with
 | some _=>true
 | none=>false
theorem QmU{src dst:TypeId}{k k':IntKind}{x:Operand}{p:Int}(ho:o.op=.convert src dst x)(hd:o.dst=some t)(hs:hasT X src=true)(hT:intT X dst=some k')(hx:σ.ev x=.d (.n k p))(ht:Nat.blt t σ.nt=true)(hK:K (σ.put t (.d (.n k' (k'.wrap p))))):QOk X o σ K:=by
 unfold hasT at hs
 split at hs
 ·rename_i ts _
  unfold intT at hT
  split at hT
  ·rename_i td _
   unfold intD at hT
   split at hT
   ·rename_i b a
    injection hT with hT
    subst hT
    exact Qv4 (td:=td) (ts:=ts) ho hd hx a rfl ht hK
   ·cases hT
  ·cases hT
 ·cases hs
theorem Qh7{src dst:TypeId}{k:IntKind}{x:Operand}{p:Int}(ho:o.op=.convert src dst x)(hd:o.dst=some t)(hs:hasT X src=true)(hT:intT X dst=some .i64)(hx:σ.ev x=.d (.n k p))(hb : -9223372036854775808<=p/\p<=9223372036854775807)(ht:Nat.blt t σ.nt=true)(hK:K (σ.put t (.d (.n .i64 p)))):QOk X o σ K:=
 QmU ho hd hs hT hx ht (by rw[IntWalk.i64_in _ hb];exact hK)
end
end
section

section
variable {X:Cx} {σ:AS} {o:Oper} {K:AS->Prop} {t:Nat}
theorem Qi6{P:Program}{w:World}{T:TypeId}{d:TypeDesc}(hu:P.underlying T=some d)(ha:J6 d=false){cs:Array Value}{off:Nat}{v:Value}(hv:cs[off]?=some v):(part T cs off).run P w=.ok v w:=by
 have a:(isAgg T).run P w=.ok false w:=by
  unfold isAgg
  rw[Sem.run_bind,run_underlying hu w]
  cases d <;> simp_all[J6,Sem.run_pure]
 simp only[part,Sem.run_bind,a,Result.andThen_ok,XaZ,if_false,hv,Sem.run_pure]
theorem Qrd{P:Program}{w:World}{T:TypeId}(ti:TI P T)(ha:J6 ti.desc=true){cs:Array Value}{off:Nat}:(part T cs off).run P w=.ok (.agg ((cs.toList.drop off).take ti.size).toArray) w:=by
 have a:(isAgg T).run P w=.ok true w:=by
  unfold isAgg
  rw[Sem.run_bind,run_underlying ti.und w]
  cases d:ti.desc <;> simp_all[J6,Sem.run_pure]
 obtain⟨i,b,_,c,_⟩:=ti.parts
 have e:cs.extract off (off+ti.size)=((cs.toList.drop off).take ti.size).toArray:=by
  apply Array.ext'
  simp
 simp only[part,Sem.run_bind,a,Result.andThen_ok,if_true,sizeOf,typeInfo,run_program,b,c,Sem.run_pure,e]
theorem Qoq{P:Program}{w:World}{T:TypeId}{fs:Array Field}{f:Nat}{fd:Field}(hu:P.underlying T=some (.struct fs))(hf:fs[f]?=some fd)(cs:Array Value):(Instr.field T (.agg cs) f).run P w=(part fd.type cs fd.offset).run P w:=by
 simp only[Instr.field,Sem.run_bind,run_underlying hu,Result.andThen_ok,hf,asAgg,Sem.run_pure]
theorem QjW{d:TypeDesc}{f off:Nat}{ft:TypeId}(h:Vv d f=some (off,ft)):∃fs fd,d=.struct fs/\fs[f]?=some fd/\fd.offset=off/\fd.type=ft:=by
 unfold Vv at h
 split at h
 ·rename_i fs
  cases a:fs[f]? with
  | none=>rw[a]at h;cases h
  | some fd=>
   rw[a]at h
   simp only[XaP,Xan,XbT]at h
   exact⟨fs,fd,rfl,a,h.1,h.2⟩
 ·cases h
theorem QnQ{T ft:TypeId}{x:Operand}{f off:Nat}{xs:List AV}{v:AV}[ti:TI X.P T](ho:o.op=.field T x f)(hd:o.dst=some t)(hf:Vv ti.desc f=some (off,ft))[tf:TI X.P ft](ha:J6 tf.desc=false)(hx:σ.ev x=.agg xs)(hv:xs[off]?=some v)(ht:Nat.blt t σ.nt=true)(hK:K (σ.put t v)):QOk X o σ K:=
 Jh hd ht (fun a w en h=>by
  obtain⟨p,c,k⟩:=QZ h hx
  obtain⟨u,m,n⟩:=Wh k hv
  obtain⟨b,j,d,e,g,i⟩:=QjW hf
  subst g;subst i
  refine⟨u,fun w' _=>?_,n⟩
  simp only[execOp,ho,c,Sem.run_bind,Qoq (d▸ti.und) e,Qi6 tf.und ha (show p.toArray[j.offset]?=some u by simpa using m),Result.andThen]
  rfl) hK
def Qh2(X:Cx):List Field->Option (List (Nat×Nat))
 | []=>some []
 | f::b=>match X.tt f.type with
  | some tf=>match Qh2 X b with
   | some l=>some ((f.offset,tf.size)::l)
   | none=>none
  | none=>none
theorem Qgh:∀{fs:List Field} {l:List (Nat×Nat)},Qh2 X fs=some l->fs.mapM (fun f=>(X.P.info? f.type).map fun i=>(f.offset,i.size))=some l
 | [],l,h=>by injection h with h;subst h;rfl
 | f::fs,l,h=>by
  simp only[Qh2]at h
  split at h
  ·rename_i tf _
   split at h
   ·rename_i l' hl
    injection h with h;subst h
    obtain⟨i,h1,_,h2,_⟩:=tf.parts
    simp only[List.mapM_cons,h1,XaP,h2,Qgh hl]
    rfl
   ·cases h
  ·cases h
def Qs2(places:List (Nat×Nat)):List AV->List (Nat×AV)->Option (List AV)
 | cs,[]=>some cs
 | cs,(i,v)::rest=>match places[i]? with
  | some (off,size)=>match v.cellsV with
   | some xs=>bif Nat.beq xs.length size then(bif Nat.ble (off+size) cs.length then Zf (splice cs off xs) (fun cs'=>Qs2 places cs' rest)else none)else none
   | none=>none
  | none=>none
theorem Qmh{w:World}{en:List Ent}{P:Program}{w0:World}{f:Nat->Bool}{Z:ZV f}{O:Nat->Prop}(hm:Mem P w0 Z O en w){places:List (Nat×Nat)}:∀{parts:List (Nat×AV)} {vs:List (Nat×Value)} {cs cs':List AV} {cells:Array Value},Qs2 places cs parts=some cs'->
  Qm w en (Imm w0 Z O en w) cs cells.toList->vs.map Prod.fst=parts.map Prod.fst->Qm w en (Imm w0 Z O en w) (parts.map Prod.snd) (vs.map Prod.snd)->
  ∃r,Instr.fill (places.toArray[·]?) cells vs=some r/\Qm w en (Imm w0 Z O en w) cs' r.toList
 | [],vs,cs,cs',cells,hf,hc,hv,_=>by
  injection hf with hf
  subst hf
  obtain rfl:vs=[]:=by simpa using hv
  exact⟨cells,rfl,hc⟩
 | (i,x)::parts,vs,cs,cs',cells,hf,hc,hv,hs=>by
  simp only[Qs2]at hf
  match vs,hv,hs with
  | (i',v)::vs,hv,hs=>
   simp only[Xat,Xbz]at hv
   obtain⟨rfl,hv2⟩:=hv
   obtain⟨u,us',e0,h2,h3⟩:=hs
   simp only[Xat,Xbz]at e0
   obtain⟨rfl,rfl⟩:=e0
   split at hf
   ·rename_i off size hpl
    split at hf
    ·rename_i xs hx
     cases b1:Nat.beq xs.length size with
     | false=>rw[b1]at hf;cases hf
     | true=>
      cases b2:Nat.ble (off+size) cs.length with
      | false=>rw[b1,b2]at hf;cases hf
      | true=>
       rw[b1,b2]at hf
       simp only[cond_true,YE]at hf
       obtain⟨h4,h5⟩:=Wn hm hx h2
       have hsz:v.cells.size=size:=by rw[<-XaF,QF h4];exact(Qi _ _).1 b1
       have hcl:cells.size=cs.length:=by rw[<-XaF];exact QF hc
       have hfit:off+size<=cells.size:=by rw[hcl];exact XaT b2
       have hfold:(v.cells.zipIdx.foldl (fun cs (x:Value×Nat)=>cs.setIfInBounds (off+x.2) x.1) cells).toList=splice cells.toList off v.cells.toList:=by
        rw[<-Array.foldl_toList,Array.toList_zipIdx]
        have h0:=Qc0 off v.cells.toList cells 0 (by simp;omega)
        rw[XbL]at h0
        exact h0
       have g1:=ZT hc h4 off
       rw[<-hfold]at g1
       obtain⟨r,r1,r2⟩:=Qmh hm hf g1 hv2 h3
       refine⟨r,?_,r2⟩
       unfold Instr.fill
       have hp':places.toArray[i']?=some (off,size):=by simpa using hpl
       simp only[hp',hsz]
       rw[if_neg (by simp;omega)]
       exact r1
    ·cases hf
   ·cases hf
def Vh:TypeDesc->Option (List Field)
 | .struct fs=>some fs.toList
 | _=>none
end

def eqD(d:TypeDesc)(x y:AV):Option Bool:=
 match d,x,y with
 | .int _,.d (.n k p),.d (.n k' q)=>match decEq k k' with
  | .isTrue _=>some (p==q)
  | .isFalse _=>none
 | .bool,.d (.b p),.d (.b q)=>some (p==q)
 | .string,.d (.s p),.d (.s q)=>some (p==q)
 | _,_,_=>none
mutual
def eqT(X:Cx)(ns:List Nat):Nat->TypeId->List AV->List AV->Option Bool
 | 0,_,_,_=>none
 | f+1,T,xs,ys=>match X.tt T with
  | some ti=>match Vh ti.desc with
   | some fs=>bif ns.any (fun n=>Nat.beq n T)then eqF X ns f fs xs ys else none
   | none=>match xs,ys with
    | x::_,y::_=>eqD ti.desc x y
    | _,_=>none
  | none=>none
def eqF(X:Cx)(ns:List Nat):Nat->List Field->List AV->List AV->Option Bool
 | _,[],_,_=>some true
 | 0,_,_,_=>none
 | f + 1, fd :: fs, xs, ys => bif fd.name != "_" then (match X.tt fd.type with
  | some tf=>match eqT X ns f fd.type ((xs.drop fd.offset).take tf.size) ((ys.drop fd.offset).take tf.size) with
   | some a=>match eqF X ns f fs xs ys with
    | some b=>some (a&&b)
    | none=>none
   | none=>none
  | none=>none)else none
end
theorem Qtv{P:Program}{ns:List Nat}(h:(ns.all fun T=>!P.stoodInHeld T)=true){T:TypeId}(hT:ns.any (fun n=>Nat.beq n T)=true):P.stoodInHeld T=false:=by
 rw[XaX]at hT
 obtain⟨n,a,e⟩:=hT
 rw[Xaw]at h
 have:=h n a
 rw[(Qi _ _).1 e]at this
 simpa using this
theorem QwR{P:Program}{w wl:World}{en:List Ent}{I:Nat->Prop}{x y:AV}{u v:Value}{b:Bool}{T:TypeId}{d:TypeDesc}(hu:P.underlying T=some d)(h1:x.shows wl en I u)(h2:y.shows wl en I v)(hb:eqD d x y=some b)(n:Nat) :
  (Op.equalIn (n+1) T u v).run P w=.ok b w:=by
 unfold eqD at hb
 split at hb
 ·rename_i k p k' q
  split at hb
  ·rename_i c _
   subst c
   injection hb with hb
   subst hb
   obtain⟨F,⟨rfl,_⟩,_⟩:=h1
   obtain⟨G,⟨rfl,_⟩,_⟩:=h2
   simp[Op.equalIn,run_underlying hu]
  ·cases hb
 ·injection hb with hb
  subst hb
  obtain⟨F,⟨rfl,_⟩,_⟩:=h1
  obtain⟨G,⟨rfl,_⟩,_⟩:=h2
  simp[Op.equalIn,run_underlying hu]
 ·rename_i p q
  injection hb with hb
  subst hb
  obtain⟨F,⟨rfl,_⟩,_⟩:=h1
  obtain⟨G,⟨rfl,_⟩,_⟩:=h2
  have e:((⟨p.toArray⟩:ByteArray)==⟨q.toArray⟩)=(p==q):=by
   show((⟨p⟩:Array UInt8)==⟨q⟩)=(p==q)
   simp
  simp[Op.equalIn,run_underlying hu,e]
 ·cases hb
def QaS(d:TypeDesc)(us:List Value):Value:=match Vh d with
 | some _=>.agg us.toArray
 | none=>us.getD 0 undef
theorem QcW{d:TypeDesc}{fs:List Field}(h:Vh d=some fs):d=.struct fs.toArray:=by
 unfold Vh at h
 split at h
 ·injection h with h;subst h;simp
 ·cases h
theorem Qc4{P:Program}{w wl:World}{en:List Ent}{I:Nat->Prop}{T:TypeId}(ti:TI P T){us:List Value}{xs:List AV}{off:Nat}(hs:Qm wl en I xs us)(hne:Vh ti.desc=none->J6 ti.desc=false/\(xs.drop off).take ti.size≠[]):(part T us.toArray off).run P w=.ok (QaS ti.desc ((us.drop off).take ti.size)) w:=by
 unfold QaS
 cases a:Vh ti.desc with
 | some fs=>
  have:=QcW a
  rw[Qrd ti (by rw[this];rfl)]
 | none=>
  obtain⟨d,f⟩:=hne a
  have e:=QF (Y8 (WK hs off) ti.size)
  have b:0<((us.drop off).take ti.size).length:=by rw[e];exact Xbb.2 f
  have c:us[off]?=some (((us.drop off).take ti.size).getD 0 undef):=by
   simp only[Xah,XaL]at b
   rw[List.getD_eq_getElem?_getD,List.getElem?_take,if_pos (by omega),List.getElem?_drop,XbL]
   rw[List.getElem?_eq_getElem (by omega)]
   rfl
  exact Qi6 ti.und d (by simpa using c)
section
variable {X:Cx} {w wl:World} {en:List Ent} {I:Nat->Prop}
theorem QwK{d:TypeDesc}{x y:AV}{b:Bool}(h:eqD d x y=some b):J6 d=false:=by
 unfold eqD at h
 split at h <;> first|rfl|cases h
mutual
theorem QrZ{ns:List Nat}(hc:(ns.all fun T=>!X.P.stoodInHeld T)=true):∀(f d:Nat) {T:TypeId} {ti:TI X.P T} {xs ys:List AV} {us vs:List Value} {b:Bool},X.tt T=some ti->eqT X ns f T xs ys=some b->Qm wl en I xs us->Qm wl en I ys vs->
  (Op.equalIn (f+d) T (QaS ti.desc us) (QaS ti.desc vs)).run X.P w=.ok b w/\(Vh ti.desc=none->J6 ti.desc=false/\xs≠[]/\ys≠[])
 | 0,_,_,_,_,_,_,_,_,_,h,_,_=>by cases h
 | f+1,d,T,ti,xs,ys,us,vs,b,ht,h,h1,h2=>by
  simp only[eqT,ht]at h
  unfold QaS
  cases hd:Vh ti.desc with
  | some fs=>
   simp only[hd]at h
   cases hany:ns.any (fun n=>Nat.beq n T) with
   | false=>rw[hany]at h;cases h
   | true=>
   rw[hany,cond_true]at h
   refine⟨?_,fun e=>by cases e⟩
   have hu:=ti.und
   have hde:=QcW hd
   rw[hde]at hu
   have hfo:X.P.fieldsOf T=fs.toArray:=by simp[Program.fieldsOf,hu]
   rw[show f+1+d=(f+d)+1 by omega,run_equalIn_struct w (f+d) T us.toArray vs.toArray (by rw[hfo];exact hu) (Qtv hc hany),hfo]
   exact Qu2 hc f d h h1 h2
  | none=>
   simp only[hd]at h
   split at h
   ·rename_i x xs' y ys'
    obtain⟨u,us',rfl,g1,g2⟩:=h1
    obtain⟨v,vs',rfl,g3,g4⟩:=h2
    refine⟨?_,fun _=>⟨QwK h,by simp,by simp⟩⟩
    rw[show f+1+d=(f+d)+1 by omega]
    exact QwR ti.und g1 g3 h _
   ·cases h
theorem Qu2{ns:List Nat}(hc:(ns.all fun T=>!X.P.stoodInHeld T)=true):∀(f d:Nat) {fs:List Field} {xs ys:List AV} {us vs:List Value} {b:Bool},eqF X ns f fs xs ys=some b->Qm wl en I xs us->Qm wl en I ys vs->
  (Op.eqFields (f+d) us.toArray vs.toArray fs).run X.P w=.ok b w
 | f,d,[],xs,ys,us,vs,b,h,_,_=>by
  have:some true=some b:=by cases f <;> exact h
  injection this with h
  subst h
  simp[Op.eqFields,Sem.run_pure]
 | 0,_,fd::fs,_,_,_,_,_,h,_,_=>by cases h
 | f+1,d,fd::fs,xs,ys,us,vs,b,h,h1,h2=>by
  simp only[eqF]at h
  cases hn : fd.name != "_" with
  | false=>rw[hn]at h;cases h
  | true=>
   rw[hn]at h
   simp only[cond_true]at h
   split at h
   ·rename_i tf htf
    split at h
    ·rename_i a ha
     split at h
     ·rename_i c hcc
      injection h with h
      subst h
      obtain⟨k1,k2⟩:=QrZ hc f (d+1) htf ha (Y8 (WK h1 fd.offset) tf.size) (Y8 (WK h2 fd.offset) tf.size)
      have k3:=Qu2 hc f (d+1) hcc h1 h2
      rw[show f+(d+1)=f+1+d by omega]at k1 k3
      have p1:=Qc4 (w:=w) tf h1 (off:=fd.offset) (fun e=>⟨(k2 e).1,(k2 e).2.1⟩)
      have p2:=Qc4 (w:=w) tf h2 (off:=fd.offset) (fun e=>⟨(k2 e).1,(k2 e).2.2⟩)
      have hn' : fd.name ≠ "_" := by simpa using hn
      simp only[Op.eqFields,if_pos hn',Sem.run_bind,p1,p2,k1,Result.andThen_ok]
      cases a
      ·simp[Sem.run_pure]
      ·simpa using k3
     ·cases h
    ·cases h
   ·cases h
end
end
section
variable {X:Cx} {σ:AS} {o:Oper} {K:AS->Prop} {t:Nat}
end

theorem Qsf{e:List D}{z:Nat}(h:e.length=z):lenE [e] z:=fun x hx=>by rw[XaH.1 hx];exact h
theorem QmZ{α:Type}{f:α->List D}{l:List α}{z:Nat}(h:∀a,(f a).length=z):lenE (l.map f) z:=fun x hx=>by
 obtain⟨a,_,rfl⟩:=Xaf.1 hx
 exact h a
theorem Q6{α:Type}{f:α->List D}{l:List α}(h:∀a,(f a).all D.flat1=true):WC (l.map f)=true:=by
 unfold WC
 rw[Xaw]
 intro x b
 obtain⟨a,_,rfl⟩:=Xaf.1 b
 exact h a
def strE(l:List (List UInt8)):List (List D):=l.map fun s=>[.s s]
def intE(l:List Int):List (List D):=l.map fun x=>[.n .i64 x]
theorem Qc1(l r:List UInt8):QK l++QK r=QK (l++r):=by simp[QK]
theorem Qy(l:List UInt8):(QK l).length=l.length:=by simp[QK]
theorem YH(l:List (List UInt8)):(strE l).length=l.length:=by simp[strE]
theorem Qc(l:List Int):(intE l).length=l.length:=by simp[intE]
end
end Go.Proofs.YtkdniahincpmaaaGreat
namespace Go.Proofs.YtkdniahincpmaaaGreat
open Go Go.RowKit Go.ChangeShapes Go.WideShapes

mutual
def TyD(X:Cx):Nat->TypeId->List D->Prop
 | 0,_,_=>False
 | n+1,T,ds=>match X.tt T with
  | some ti=>match ti.desc with
   | .int k=>∃z,ds=[.n k z]/\(Lit.int k z).wf=true
   | .bool=>∃b,ds=[.b b]
   | .string=>∃l,ds=[.s l]/\l.length<=9223372036854775807
   | .slice e=>∃es,ds=[.sl es]/\es.length<=9223372036854775807/\∀q∈es,TyD X n e q
   | .struct fs=>TyF X n fs.toList ds
   | _=>False
  | none=>False
def TyF(X:Cx):Nat->List Field->List D->Prop
 | _,[],ds=>ds=[]
 | 0,_,_=>False
 | n+1,f::fs,ds=>∃d1 d2,ds=d1++d2/\TyD X n f.type d1/\TyF X n fs d2
end
mutual
def chkD(X:Cx):Nat->TypeId->Bool
 | 0,_=>false
 | n+1,T=>match X.tt T with
  | some ti=>match ti.desc with
   | .int _=>Nat.beq ti.size 1
   | .bool=>Nat.beq ti.size 1
   | .string=>Nat.beq ti.size 1
   | .slice e=>Nat.beq ti.size 1&&chkD X n e&&(match X.tt e with
    | some te=>Nat.blt 0 te.size
    | none=>false)
   | .struct fs=>chkF X n fs.toList 0 ti.size
   | _=>false
  | none=>false
def chkF(X:Cx):Nat->List Field->Nat->Nat->Bool
 | _,[],off,n=>Nat.beq off n
 | 0,_,_,_=>false
 | f+1,fd::fs,off,n=>Nat.beq fd.offset off&&chkD X f fd.type&&(match X.tt fd.type with
  | some tf=>chkF X f fs (off+tf.size) n
  | none=>false)
end
theorem TI.cells{P:Program}{T:TypeId}(ti:TI P T):P.cellsOf T=ti.size:=by
 obtain⟨i,a,_,b,_⟩:=ti.parts
 unfold Program.cellsOf
 rw[a]
 exact b
section
variable {H:Type} {enc:TypeId×Value->H} {X:Cx} {w:World}
theorem Qoj{t e:TypeId}{m:Nat}{d:DataW H×List MemPlace}{fuel:Nat}{cs0:List Value}(ht:X.P.underlying t=some (.slice e))(hc:X.P.cellsOf e=m)(hm:0<m)(hf:DataW.trod enc X.P w 0 (fun _=>true) true fuel t cs0=some d) :
  ∃(A:Option Addr) (n cap:Nat) (xs:List Value),cs0=[.slice A n cap]/\cap<=maxLen/\Rd w m A n cap xs/\
   ∀i,i<n->∃(fuel:Nat) (y:DataW H×List MemPlace),DataW.trod enc X.P w 0 (fun _=>true) true fuel e ((xs.drop (i*m)).take m)=some y:=by
 rcases Go.Deep.open_slice ht hf with ⟨hcs,_⟩|⟨a,n0,cap,m',k,Dd,Pl,hcs,_,hl,hcm,hmm,_,hi⟩
 ·exact⟨none,0,0,[],hcs,Xad _,Rd.nil_ w m,fun i hi=>absurd hi (by omega)⟩
 ·have aj:n0<=m':=by rw[hmm];simp;exact hl
  have x:∀i,∃g:List Value,i<n0->w.cells? 0 (a.add (i*m)) m=some g/\DataW.trod enc X.P w 0 (fun _=>true) true k e g=some (Dd i,Pl i):=fun i=>by
   by_cases b:i<n0
   ·obtain⟨g,r,s⟩:=hi i (by omega)
    rw[hc]at r
    exact⟨g,fun _=>⟨r,s⟩⟩
   ·exact⟨[],fun hh=>absurd hh b⟩
  obtain⟨f,c⟩:=Classical.axiomOfChoice x
  have l:∀i,i<n0->(f i).length=m:=fun i b=>(World.cells?_some (c i b).1).2.1
  have p:∀k,k<=n0->((List.range k).flatMap f).length=k*m/\∀i,i<k->∀j,j<m->((List.range k).flatMap f)[i*m+j]?=(f i)[j]?:=by
   intro k
   induction k with
   | zero=>intro _;exact⟨by simp,fun i hi=>absurd hi (by omega)⟩
   | succ k ih=>
    intro hk
    obtain⟨v,i2⟩:=ih (by omega)
    rw[Xb0,XbU]
    have z:(List.flatMap f [k])=f k:=by simp
    rw[z]
    refine⟨by rw[Xaa,v,l k (by omega),Xa2];omega,fun i hik j q=>?_⟩
    by_cases h:i<k
    ·have hb:i*m+j<k*m:=by
      have:(i+1)*m<=k*m:=XaY m h
      rw[Xa2]at this;omega
     rw[List.getElem?_append_left (by rw[v];exact hb)]
     exact i2 i h j q
    ·have:i=k:=by omega
     subst this
     rw[List.getElem?_append_right (by rw[v];omega),v]
     congr 1
     omega
  obtain⟨f1,f2⟩:=p n0 (Xaj _)
  have ab:∀i,i<n0->∃(fuel:Nat) (y:DataW H×List MemPlace),DataW.trod enc X.P w 0 (fun _=>true) true fuel e ((((List.range n0).flatMap f).drop (i*m)).take m)=some y:=fun i b=>by
   have:(((List.range n0).flatMap f).drop (i*m)).take m=f i:=by
    apply List.ext_getElem?
    intro j
    by_cases q:j<m
    ·rw[List.getElem?_take,if_pos q,List.getElem?_drop,f2 i b j q]
    ·rw[List.getElem?_eq_none (by simp;omega),List.getElem?_eq_none (by rw[l i b];omega)]
   exact⟨k,(Dd i,Pl i),by rw[this];exact(c i b).2⟩
  refine⟨some a,n0,cap,(List.range n0).flatMap f,hcs,hcm,⟨f1,hl,⟨by unfold maxLen at hcm;omega,fun e=>by cases e⟩,fun hn=>?_⟩,ab⟩
  have h0:∃u,w.cell? a=some u:=by
   obtain⟨_,ai,o⟩:=World.cells?_some (c 0 hn).1
   have:=o 0 hm
   simp only[Xbq,Addr.add,if_true]at this
   exact⟨(f 0)[0]'(by omega),by rw[this,List.getElem?_eq_getElem]⟩
  obtain⟨u0,aa⟩:=h0
  have ha:=Qrq aa
  refine⟨a.block,a.off,by rw[<-ha],fun j u hu=>?_⟩
  have q:j<n0*m:=by rw[<-f1];exact(List.getElem?_eq_some_iff.1 hu).1
  have r:j / m<n0:=(Nat.div_lt_iff_lt_mul hm).2 q
  have s:j % m<m:=Nat.mod_lt _ hm
  have h3:=f2 (j / m) r (j % m) s
  rw[XcG]at h3
  obtain⟨_,_,o⟩:=World.cells?_some (c (j / m) r).1
  have h4:=o (j % m) s
  rw[ha,Yi,Yi,XbD,XcG,<-h3,hu]at h4
  exact h4
theorem Ql4{m:Nat}{Ty:List D->Prop}:∀(n:Nat) (xs:List Value),xs.length=n*m->(∀i,i<n->∃ds F,repL w ds ((xs.drop (i*m)).take m) F/\(∀b∈F,b<w.heap.size)/\Ty ds/\ds.length=m)->
  ∃es F,repE w es xs F/\es.length=n/\(∀e∈es,e.length=m)/\(∀b∈F,b<w.heap.size)/\∀q∈es,Ty q
 | 0,xs,hl,_=>⟨[],[],⟨XaD (by simpa using hl),rfl⟩,rfl,by simp,by simp,by simp⟩
 | n+1,xs,hl,h=>by
  rw[Xa2,Xcb]at hl
  obtain⟨ds,F,h1,h2,h3,h4⟩:=h 0 (by omega)
  rw[Xbq,XbO]at h1
  obtain⟨es,G,g1,g2,g3,g4,g5⟩:=Ql4 (m:=m) n (xs.drop m) (by simp;omega) (fun i hi=>by
   obtain⟨ds,F,k1,k2,k3,k4⟩:=h (i+1) (by omega)
   refine⟨ds,F,?_,k2,k3,k4⟩
   rw[Xb4,show m+i*m=(i+1)*m by rw[Xa2];omega]
   exact k1)
  refine⟨ds::es,F++G,⟨xs.take m,xs.drop m,F,G,(List.take_append_drop m xs).symm,rfl,h1,g1⟩,by simp[g2],fun e he=>?_,fun b hb=>?_,fun q hq=>?_⟩
  ·rcases Xai.1 he with rfl|he
   ·exact h4
   ·exact g3 e he
  ·rcases Xag.1 hb with hb|hb
   ·exact h2 b hb
   ·exact g4 b hb
  ·rcases Xai.1 hq with rfl|hq
   ·exact h3
   ·exact g5 q hq
mutual
theorem Qey:∀(n:Nat) {T:TypeId} {ti:TI X.P T} {fuel:Nat} {cs:List Value} {x:DataW H×List MemPlace},X.tt T=some ti->chkD X n T=true->DataW.trod enc X.P w 0 (fun _=>true) true fuel T cs=some x->
  ∃ds F,repL w ds cs F/\(∀b∈F,b<w.heap.size)/\TyD X n T ds/\ds.length=ti.size
 | 0,_,_,_,_,_,_,h,_=>by cases h
 | n+1,T,ti,fuel,cs,x,ht,h,hx=>by
  have hu:=ti.und
  simp only[chkD,ht]at h
  simp only[TyD,ht]
  split at h
  ·rename_i k hde
   rw[hde]at hu
   obtain⟨z,rfl,_,hw⟩:=DataW.trod_int hu hx
   exact⟨[.n k z],[],⟨_,[],[],[],rfl,rfl,⟨rfl,rfl⟩,rfl,rfl⟩,by simp,⟨z,rfl,hw⟩,((Qi _ _).1 h).symm⟩
  ·rename_i hde
   rw[hde]at hu
   obtain⟨z,rfl,_⟩:=DataW.trod_bool hu hx
   exact⟨[.b z],[],⟨_,[],[],[],rfl,rfl,⟨rfl,rfl⟩,rfl,rfl⟩,by simp,⟨z,rfl⟩,((Qi _ _).1 h).symm⟩
  ·rename_i hde
   rw[hde]at hu
   obtain⟨z,rfl,_,hm⟩:=DataW.trod_string hu hx
   refine⟨[.s z.data.toList],[],⟨_,[],[],[],rfl,rfl,⟨by rw[QeW],rfl⟩,rfl,rfl⟩,by simp,⟨z.data.toList,rfl,?_⟩,((Qi _ _).1 h).symm⟩
   have:z.data.toList.length=z.size:=XaF
   unfold maxLen at hm
   omega
  ·rename_i e hde
   rw[hde]at hu
   simp only[Xab]at h
   obtain⟨⟨h1,h2⟩,h3⟩:=h
   split at h3
   ·rename_i te hte
    have hpos:=JK h3
    obtain⟨A,m,cap,xs,rfl,hcm,hr,hi⟩:=Qoj hu te.cells hpos hx
    obtain⟨es,F,g1,g2,g3,g4,g5⟩:=Ql4 (w:=w) (m:=te.size) (Ty:=TyD X n e) m xs hr.1 (fun i him=>by
     obtain⟨f',y,hy⟩:=hi i him
     exact Qey n hte h2 hy)
    have hmm:m<=maxLen:=Xal hr.2.1 hcm
    by_cases h0:es=[]
    ·subst h0
     simp only[XaA]at g2
     subst g2
     have hx0:=g1.1
     refine⟨[.sl []],[],⟨_,[],[],[],rfl,rfl,⟨A,cap,te.size,[],[],rfl,Xad _,hcm,hr.2.2.1.2,by simp,⟨rfl,rfl⟩,.inl ⟨rfl,rfl⟩⟩,rfl,rfl⟩,by simp,⟨[],rfl,by simp,by simp⟩,((Qi _ _).1 h1).symm⟩
    ·have hm0:0<m:=by rw[<-g2];exact Xbb.2 h0
     obtain⟨b,o,rfl,hcell⟩:=hr.2.2.2 hm0
     have hxl:0<xs.length:=by rw[hr.1];exact Nat.mul_pos hm0 hpos
     have hlt:b<w.heap.size:=World.block_lt_of_cell? w _ (hcell 0 _ (List.getElem?_eq_getElem hxl))
     refine⟨[.sl es],b::F,⟨_,[],b::F,[],rfl,by simp,⟨_,cap,te.size,xs,F,by rw[g2],by rw[g2];exact hr.2.1,hcm,(fun e=>by cases e),g3,g1,.inr ⟨h0,b,o,rfl,hlt,rfl,hcell⟩⟩,rfl,rfl⟩,fun c hc=>?_,⟨es,rfl,by rw[g2];unfold maxLen at hmm;omega,g5⟩,((Qi _ _).1 h1).symm⟩
     rcases Xai.1 hc with rfl|hc
     ·exact hlt
     ·exact g4 c hc
   ·cases h3
  ·rename_i fs hde
   rw[hde]at hu
   obtain⟨xs,m,_,_,hl,hxl,hf⟩:=DataW.trod_struct hu hx
   rw[ti.cells]at hl
   obtain⟨ds,F,g1,g2,g3,g4⟩:=Qep n (fs:=fs.toList) (off:=0) (total:=ti.size) (cs:=cs) h (by omega) (fun i f hfi=>by
    have hfi':fs[i]?=some f:=by simpa using hfi
    have h5:=hf i f hfi'
    have:i<xs.length:=by rw[hxl];exact(Array.getElem?_eq_some_iff.1 hfi').1
    exact⟨m,_,h5.trans (List.getElem?_eq_getElem this)⟩)
   simp only[XbO]at g1
   exact⟨ds,F,g1,g2,g3,by simpa using g4⟩
  ·cases h
theorem Qep:∀(n:Nat) {fs:List Field} {off total:Nat} {cs:List Value},chkF X n fs off total=true->cs.length=total->(∀(i:Nat) (f:Field),fs[i]?=some f->∃(fuel:Nat) (y:DataW H×List MemPlace),DataW.trod enc X.P w 0 (fun _=>true) true fuel f.type ((cs.drop f.offset).take (X.P.cellsOf f.type))=some y)->
  ∃ds F,repL w ds (cs.drop off) F/\(∀b∈F,b<w.heap.size)/\TyF X n fs ds/\ds.length=total-off
 | n,[],off,total,cs,h,hl,_=>by
  have:Nat.beq off total=true:=by cases n <;> exact h
  have e:=(Qi _ _).1 this
  refine⟨[],[],⟨Xbf (by omega),rfl⟩,by simp,by cases n <;> rfl,by simp;omega⟩
 | 0,f::fs,_,_,_,h,_,_=>by cases h
 | n+1,f::fs,off,total,cs,h,hl,hf=>by
  simp only[chkF,Xab]at h
  obtain⟨⟨h1,h2⟩,h3⟩:=h
  have hoff:=(Qi _ _).1 h1
  split at h3
  ·rename_i tf htf
   obtain⟨fu,y,hy⟩:=hf 0 f rfl
   rw[hoff,tf.cells]at hy
   obtain⟨d1,F1,g1,g2,g3,g4⟩:=Qey n htf h2 hy
   obtain⟨d2,F2,k1,k2,k3,k4⟩:=Qep n h3 hl (fun i f' hi=>hf (i+1) f' (by simpa using hi))
   refine⟨d1++d2,F1++F2,?_,fun b hb=>(Xag.1 hb).elim (g2 b) (k2 b),⟨d1,d2,rfl,g3,k3⟩,?_⟩
   ·have:=YG g1 k1
    rwa [<-Xb4,XaK]at this
   ·have hlt:=QS g1
    rw[g4,Xah,XaL]at hlt
    rw[Xaa,g4,k4]
    omega
  ·cases h3
end
theorem law_arg(n:Nat){H:Type}{X:Cx}{enc:TypeId×Value->H}{w:World}{T:TypeId}{ti:TI X.P T}{r:Reach}{b0:Nat}{v:Value}{d:DataW H}{p:List MemPlace}(ht:X.tt T=some ti)(hc:chkD X (n+1) T=true)(hok:Value.okWide X.P w r b0 T v)(h:DataW.Trod enc X.P w 0 (fun _=>true) true T v d p) :
  ∃ds F,repL w ds v.cells.toList F/\(∀b∈F,b<w.heap.size)/\TyD X (n+1) T ds/\ds.length=ti.size/\(J6 ti.desc=true->∃cs,v=.agg cs)/\(J6 ti.desc=false->v.cells=#[v]):=by
 obtain⟨g,o⟩:=h
 obtain⟨ds,F,i,j,k,m⟩:=Qey (w:=w) (n+1) ht hc o
 have f:=ti.und
 refine⟨ds,F,i,j,k,m,fun ha=>?_,fun ha=>?_⟩
 ·simp only[chkD,ht]at hc
  split at hc
  ·rename_i e
   rw[e]at ha
   cases ha
  ·rename_i e
   rw[e]at ha
   cases ha
  ·rename_i e
   rw[e]at ha
   cases ha
  ·rename_i e
   rw[e]at ha
   cases ha
  ·rename_i e
   rw[e]at f
   obtain⟨cs,rfl,_⟩:=okWide_struct f hok
   exact⟨cs,rfl⟩
  ·cases hc
 ·simp only[chkD,ht]at hc
  split at hc
  ·rename_i e
   rw[e]at f
   obtain⟨n,rfl⟩:=okWide_int f hok
   rfl
  ·rename_i e
   rw[e]at f
   obtain⟨n,rfl⟩:=okWide_bool f hok
   rfl
  ·rename_i e
   rw[e]at f
   obtain⟨n,rfl⟩:=okWide_string f hok
   rfl
  ·rename_i e
   rw[e]at f
   obtain⟨a,l,c,rfl⟩:=okWide_slice f hok
   rfl
  ·rename_i e
   rw[e]at ha
   cases ha
  ·cases hc
end
section
variable {P:Program} {W:World}
theorem QjX{x:D}{v:Value}{F:List Nat}(h:repL W [x] v.cells.toList F)(hF:∀b∈F,b<W.heap.size)(hv:v.cells=#[v]):(AV.d x).shows W [] (fun b=>b<W.heap.size) v:=by
 obtain⟨u,f,F1,F2,e,rfl,c,h2⟩:=h
 rw[hv]at e
 simp only[Xbz]at e
 obtain⟨rfl,_⟩:=e
 exact⟨F1,c,fun b hb=>hF b (Xau _ hb)⟩
theorem law_of{f:FuncId}{xs:List AV}{us:List Value}(h:ACalls P f xs [.d (.b true)] [])(hs:Qm W [] (fun b=>b<W.heap.size) xs us):Calls P f us.toArray W fun e W'=>e=.returned (.bool true)/\Below W.heap.size W W':=
 ((h W us hs).2).mono fun e W' ⟨v,en,he,m,_,hr⟩=>by
  obtain⟨F,⟨a,_⟩,_⟩:=hr
  exact⟨by rw[he,a],Qb0 m⟩
end
end Go.Proofs.YtkdniahincpmaaaGreat
