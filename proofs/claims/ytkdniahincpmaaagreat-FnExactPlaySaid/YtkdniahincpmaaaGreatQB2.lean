/-
  The walk over abstract states: the call of a function under its contract; nil made an object.
-/
import Derived.Test.YtkdniahincpmaaaGreatQB1
import Derived.Deep.DeepAppendWide
import Derived.Great.BuildSlice
import Derived.Laws.IdiomStrings
import Derived.Laws.BytesString
import Derived.Laws.StructEq
import Derived.Lib.MinMax
set_option maxRecDepth 100000
set_option maxHeartbeats 16000000
namespace Go.Proofs.YtkdniahincpmaaaGreat
open Go Go.RowKit
section

def snap1(ob:List (Nat×AO)):AV->Option AV
 | .sub p i j=>match Ql ob p with
  | some (.row _ es _)=>some (.d (.sl ((es.take j).drop i)))
  | _=>none
 | .d x=>some (.d x)
 | .nil=>some (.d (.sl []))
 | .row p=>match Ql ob p with
  | some (.row _ es _)=>some (.d (.sl es))
  | _=>none
 | _=>none
def QtO(ob:List (Nat×AO)):List AV->Option (List AV)
 | []=>some []
 | x::xs=>match snap1 ob x with
  | some y=>match QtO ob xs with
   | some ys=>some (y::ys)
   | none=>none
  | none=>none
def Qse(ob:List (Nat×AO)):List AV->Option (List D)
 | []=>some []
 | x::xs=>match snap1 ob x with
  | some (.d y)=>match Qse ob xs with
   | some ys=>some (y::ys)
   | none=>none
  | _=>none
def Qvz(ob:List (Nat×AO)):AV->Option AV
 | .ptr p 0=>match Ql ob p with
  | some (.box _ cs)=>match Qse ob cs with
   | some ds=>some (.pd ds 0)
   | none=>none
  | _=>none
 | .pd e i=>some (.pd e i)
 | x=>snap1 ob x
def QiL(ob:List (Nat×AO)):List AV->Option (List AV)
 | []=>some []
 | x::xs=>match Qvz ob x with
  | some y=>match QiL ob xs with
   | some ys=>some (y::ys)
   | none=>none
  | none=>none
def Qop(ob:List (Nat×AO)):AV->Option AV
 | .agg xs=>match QtO ob xs with
  | some ys=>some (.agg ys)
  | none=>none
 | .clo g xs=>match QiL ob xs with
  | some ys=>some (.clo g ys)
  | none=>none
 | x=>snap1 ob x
def AS.snaps(σ:AS):List Operand->Option (List AV)
 | []=>some []
 | x::xs=>match Qop σ.ob (σ.ev x) with
  | some y=>match σ.snaps xs with
   | some ys=>some (y::ys)
   | none=>none
  | none=>none
theorem QaR{X:Cx}{σ:AS}{a:Act}{w:World}{en:List Ent}(h:J2 X σ a w en){p:Nat}{e:TypeId}{es:List (List D)}{dp:Bool}(hp:Ql σ.ob p=some (.row e es dp)) :
  ∃y∈en,y.nm=p/\y.ao=.row e es dp/\∃F,(D.sl es).rep w y.val F/\∀b∈F,(b∈y.fs\/blk y.val=some b):=by
 obtain⟨y,u,o,k⟩:=h.ent hp
 have d:=h.mem.ok y u
 have n:=fun b hb=>(d.lt (b:=b) hb).1
 unfold EntOk at d
 rw[k]at d
 obtain⟨z,us,k0,k1,l,x,k4,k5,k6,k7⟩:=d
 obtain⟨A,c,f,q,r,s,g5⟩:=JK l
 refine⟨y,u,o,k,?_⟩
 by_cases m:es=[]
 ·subst m
  exact⟨[],⟨A,c,z,us,y.fs,f,q,r,s,x,k4,.inl ⟨rfl,rfl⟩⟩,by simp⟩
 ·have i:0<es.length:=Xbd.2 m
  obtain⟨g,g6⟩:=g5 i
  subst g6
  refine⟨g::y.fs,⟨_,c,z,us,y.fs,f,q,r,s,x,k4,.inr ⟨m,g,0,rfl,n g (by rw[f];rfl),rfl,fun j v hj=>?_⟩⟩,fun b hb=>?_⟩
  ·rw[f]at l
   have t:=(List.getElem?_eq_some_iff.1 hj).1
   rw[l.1]at t
   rw[XaZ,l.cellAt j t]
   exact hj
  ·rcases Xai.1 hb with rfl|hb
   ·exact .inr (by rw[f];rfl)
   ·exact .inl hb
theorem JC{X:Cx}{σ:AS}{a:Act}{w:World}{en:List Ent}(h:J2 X σ a w en){x y:AV}{u:Value}(hx:snap1 σ.ob x=some y)(hs:x.shows w en (IM X en w) u):y.shows w [] (fun b=>b<w.heap.size) u:=by
 cases x with
 | d x=>
  injection hx with hx;subst hx
  obtain⟨F,f,_⟩:=hs
  exact⟨F,f,D.rep_lt x u F f⟩
 | nil=>
  injection hx with hx;subst hx
  rw[show u=.slice none 0 0 from hs]
  exact⟨[],⟨none,0,0,[],[],rfl,Xaj _,Xae _,fun _=>rfl,by simp,⟨rfl,rfl⟩,.inl ⟨rfl,rfl⟩⟩,by simp⟩
 | row p=>
  simp only[snap1]at hx
  split at hx
  ·rename_i e es v q
   injection hx with hx;subst hx
   obtain⟨y,r,k,m,F,f,_⟩:=QaR h q
   obtain⟨y',g,o,e2,l⟩:=hs
   have:=h.mem.ent_unique g r (o.trans k.symm)
   subst this
   subst l
   exact⟨F,f,D.rep_lt _ _ F f⟩
  ·cases hx
 | sub p i j=>
  simp only[snap1]at hx
  split at hx
  ·rename_i e es v q
   injection hx with hx;subst hx
   obtain⟨y,r,k,m,F,f,_⟩:=QaR h q
   obtain⟨y',g,o,e2,l,A,n,c,z,e4,s,rfl⟩:=hs
   have:=h.mem.ent_unique g r (o.trans k.symm)
   subst this
   rw[e4]at f
   rw[m]at l s
   obtain⟨F',t,f2⟩:=QqB (z:=z) (i:=i) (j:=j) f (fun e he=>s e.length (Xaf.2 ⟨e,he,rfl⟩)) l.1 (by have:=l.2;simp only[AO.lens,Xar]at this;exact this)
   exact⟨F',t,D.rep_lt _ _ F' t⟩
  ·cases hx
 | _=>cases hx
theorem Qfa{X:Cx}{σ:AS}{a:Act}{w:World}{en:List Ent}(h:J2 X σ a w en):∀{xs ys:List AV} {us:List Value},QtO σ.ob xs=some ys->Qn w en (IM X en w) xs us->Qn w [] (fun b=>b<w.heap.size) ys us
 | [],ys,us,hx,hs=>by
  injection hx with hx;subst hx
  exact hs
 | x::xs,ys,us,hx,hs=>by
  obtain⟨u,us',rfl,h1,h2⟩:=hs
  simp only[QtO]at hx
  split at hx
  ·rename_i y hy
   split at hx
   ·rename_i zs hzs
    injection hx with hx;subst hx
    exact⟨u,us',rfl,JC h hy h1,Qfa h hzs h2⟩
   ·cases hx
  ·cases hx
theorem Qex{X:Cx}{σ:AS}{a:Act}{w:World}{en:List Ent}(h:J2 X σ a w en):∀{xs:List AV} {ds:List D} {us:List Value},Qse σ.ob xs=some ds->Qn w en (IM X en w) xs us->∃F,repL w ds us F/\∀b∈F,b<w.heap.size
 | [],ds,us,hx,hs=>by
  injection hx with hx;subst hx
  exact⟨[],⟨hs,rfl⟩,by simp⟩
 | x::xs,ds,us,hx,hs=>by
  obtain⟨u,us',rfl,h1,h2⟩:=hs
  simp only[Qse]at hx
  split at hx
  ·rename_i y hy
   split at hx
   ·rename_i zs hzs
    injection hx with hx;subst hx
    obtain⟨F1,g1,g2⟩:=JC h hy h1
    obtain⟨F2,g3,g4⟩:=Qex h hzs h2
    exact⟨F1++F2,⟨u,us',F1,F2,rfl,rfl,g1,g3⟩,fun b hb=>(Xag.1 hb).elim (g2 b) (g4 b)⟩
   ·cases hx
  ·cases hx
theorem QkN{X:Cx}{σ:AS}{a:Act}{w:World}{en:List Ent}(h:J2 X σ a w en){x y:AV}{u:Value}(hx:Qvz σ.ob x=some y)(hs:x.shows w en (IM X en w) u):y.shows w [] (fun b=>b<w.heap.size) u:=by
 unfold Qvz at hx
 split at hx
 ·rename_i p
  split at hx
  ·rename_i e cs hp
   split at hx
   ·rename_i ds l
    injection hx with hx;subst hx
    obtain⟨y,t,s,ai,g,m,rfl⟩:=hs
    obtain⟨y',r,i,f⟩:=h.ent hp
    have:=h.mem.ent_unique t r (s.trans i.symm)
    subst this
    have d:=h.mem.ok y t
    have n:=(d.lt m).1
    unfold EntOk at d
    rw[f]at d
    obtain⟨_,q,k,k1,k2,k3,k4⟩:=d
    have hq:q=g:=by
     rw[k1]at m
     injection m
    subst hq
    obtain⟨F,z,f2⟩:=Qex h l k4
    refine⟨q,0,k.toList,F,rfl,z,fun j v hj=>?_,n,f2⟩
    simp only[World.cell?,k3,XaZ]
    simpa using hj
   ·cases hx
  ·cases hx
 ·injection hx with hx;subst hx
  obtain⟨b,o,us,F,h1,h2,h3,h4,h5⟩:=hs
  exact⟨b,o,us,F,h1,h2,h3,h4.2.1,fun c hc=>(h5 c hc).2.1⟩
 ·exact JC h hx hs
theorem Xt{X:Cx}{σ:AS}{a:Act}{w:World}{en:List Ent}(h:J2 X σ a w en):∀{xs ys:List AV} {us:List Value},QiL σ.ob xs=some ys->Qn w en (IM X en w) xs us->Qn w [] (fun b=>b<w.heap.size) ys us
 | [],ys,us,hx,hs=>by
  injection hx with hx;subst hx
  exact hs
 | x::xs,ys,us,hx,hs=>by
  obtain⟨u,us',rfl,h1,h2⟩:=hs
  simp only[QiL]at hx
  split at hx
  ·rename_i y hy
   split at hx
   ·rename_i zs hzs
    injection hx with hx;subst hx
    exact⟨u,us',rfl,QkN h hy h1,Xt h hzs h2⟩
   ·cases hx
  ·cases hx
theorem QkX{X:Cx}{σ:AS}{a:Act}{w:World}{en:List Ent}(h:J2 X σ a w en){x y:AV}{u:Value}(hx:Qop σ.ob x=some y)(hs:x.shows w en (IM X en w) u):y.shows w [] (fun b=>b<w.heap.size) u:=by
 cases x with
 | agg xs=>
  simp only[Qop]at hx
  split at hx
  ·rename_i j c
   injection hx with hx;subst hx
   obtain⟨i,e,f⟩:=hs
   exact⟨i,e,Qfa h c f⟩
  ·cases hx
 | d x=>exact JC (x:=.d x) h hx hs
 | nil=>exact JC (x:=.nil) h hx hs
 | row p=>exact JC (x:=.row p) h hx hs
 | ptr p q=>exact JC (x:=.ptr p q) h hx hs
 | pr p q r=>exact JC (x:=.pr p q r) h hx hs
 | pd p q=>exact JC (x:=.pd p q) h hx hs
 | any=>exact JC (x:=.any) h hx hs
 | tup p=>exact JC (x:=.tup p) h hx hs
 | sub p q r=>exact JC (x:=.sub p q r) h hx hs
 | clo g xs=>
  simp only[Qop]at hx
  split at hx
  ·rename_i j c
   injection hx with hx;subst hx
   obtain⟨i,e,f⟩:=hs
   exact⟨i,e,Xt h c f⟩
  ·cases hx
theorem ZN{X:Cx}{σ:AS}{a:Act}{w:World}{en:List Ent}(h:J2 X σ a w en):∀{xs:List Operand} {ys:List AV},σ.snaps xs=some ys->Qn w [] (fun b=>b<w.heap.size) ys (xs.map a.eval)
 | [],ys,hx=>by
  injection hx with hx;subst hx
  rfl
 | x::xs,ys,hx=>by
  simp only[AS.snaps]at hx
  split at hx
  ·rename_i y hy
   split at hx
   ·rename_i zs hzs
    injection hx with hx;subst hx
    exact⟨_,_,rfl,QkX h hy (AS.ev_shows h x),ZN h hzs⟩
   ·cases hx
  ·cases hx

def JA(t i:Nat):Nat:=t+1000*i
mutual
def AV.shift(t:Nat):AV->AV
 | .row i=>.row (JA t i)
 | .agg xs=>.agg (Qie t xs)
 | .tup xs=>.tup (Qie t xs)
 | .clo g xs=>.clo g (Qie t xs)
 | .sub o i j=>.sub (JA t o) i j
 | .any=>.any
 | .d x=>.d x
 | .nil=>.nil
 | .ptr o i=>.ptr (JA t o) i
 | .pr o i j=>.pr (JA t o) i j
 | .pd e i=>.pd e i
def Qie(t:Nat):List AV->List AV
 | []=>[]
 | x::xs=>x.shift t::Qie t xs
end
def Vb(t:Nat):List (Nat×AO)->List (Nat×AO)
 | []=>[]
 | (i,ao)::l=>(JA t i,ao)::Vb t l
def Qed(f:Nat->Bool)(t:Nat)(ob:List (Nat×AO)):List (Nat×AO)->Bool
 | []=>true
 | (i,ao)::l=>ao.isRow&&YU f (JA t i) ob&&Qed f t ob l
theorem QfD{t i j:Nat}(h:JA t i=JA t j):i=j:=by unfold JA at h;omega
theorem Qez{f:Nat->Bool}{t:Nat}{ob:List (Nat×AO)}:∀{l:List (Nat×AO)},Qed f t ob l=true->∀y∈l,y.2.isRow=true/\YU f (JA t y.1) ob=true
 | (i,ao)::l,h,y,hy=>by
  simp only[Qed,Xac]at h
  rcases Xai.1 hy with rfl|hy
  ·exact⟨h.1.1,h.1.2⟩
  ·exact Qez h.2 y hy
theorem Qgc(t:Nat):∀(l:List (Nat×AO)),Vb t l=l.map fun y=>(JA t y.1,y.2)
 | []=>rfl
 | (i,ao)::l=>by simp[Vb,Qgc t l]
section
variable {w:World} {en en':List Ent} {I I':Nat->Prop} {t:Nat}
mutual
theorem AV.shows_shift(hI:∀b,I b->I' b)(he:∀x∈en,∃y∈en',y.nm=JA t x.nm/\y.val=x.val/\y.ao=x.ao):∀(x:AV) (u:Value),x.shows w en I u->(x.shift t).shows w en' I' u
 | .any,_,_=>trivial
 | .d x,u,h=>by
  obtain⟨F,h1,h2⟩:=h
  exact⟨F,h1,fun b hb=>hI b (h2 b hb)⟩
 | .nil,_,h=>h
 | .row o,u,h=>by
  obtain⟨x,hx,rfl,h1,h2⟩:=h
  obtain⟨y,hy,g1,g2,g3⟩:=he x hx
  exact⟨y,hy,g1,by rw[g3];exact h1,by rw[g2];exact h2⟩
 | .ptr o off,u,h=>by
  obtain⟨x,hx,rfl,h1,g,h2,h3⟩:=h
  obtain⟨y,hy,g1,g2,g3⟩:=he x hx
  exact⟨y,hy,g1,by rw[g3];exact h1,g,by rw[g2];exact h2,h3⟩
 | .pr o i off,u,h=>by
  obtain⟨x,hx,rfl,h1,g,z,h2,h3,h4,h5⟩:=h
  obtain⟨y,hy,g1,g2,g3⟩:=he x hx
  exact⟨y,hy,g1,by rw[g3];exact h1,g,z,by rw[g2];exact h2,by rw[g3];exact h3,by rw[g3];exact h4,h5⟩
 | .pd e off,u,h=>by
  obtain⟨b,o,us,F,h1,h2,h3,h4,h5⟩:=h
  exact⟨b,o,us,F,h1,h2,h3,hI b h4,fun c hc=>hI c (h5 c hc)⟩
 | .agg xs,u,h=>by
  obtain⟨us,h1,h2⟩:=h
  exact⟨us,h1,VX hI he xs us h2⟩
 | .tup xs,u,h=>by
  obtain⟨us,h1,h2⟩:=h
  exact⟨us,h1,VX hI he xs us h2⟩
 | .clo g xs,u,h=>by
  obtain⟨us,h1,h2⟩:=h
  exact⟨us,h1,VX hI he xs us h2⟩
 | .sub o i j,u,h=>by
  obtain⟨x,hx,rfl,h1,h2,A,n,c,z,h3,h4,h5⟩:=h
  obtain⟨y,hy,g1,g2,g3⟩:=he x hx
  exact⟨y,hy,g1,by rw[g3];exact h1,by rw[g3];exact h2,A,n,c,z,by rw[g2];exact h3,by rw[g3];exact h4,h5⟩
theorem VX(hI:∀b,I b->I' b)(he:∀x∈en,∃y∈en',y.nm=JA t x.nm/\y.val=x.val/\y.ao=x.ao):∀(xs:List AV) (us:List Value),Qn w en I xs us->Qn w en' I' (Qie t xs) us
 | [],_,h=>h
 | x::xs,us,h=>by
  obtain⟨u,us',h1,h2,h3⟩:=h
  exact⟨u,us',h1,AV.shows_shift hI he x u h2,VX hI he xs us' h3⟩
end
end
theorem Qb6{P:Program}{w w':World}{en:List Ent}(m:Mem P w NoZ NoB en w'):Ext w w':=⟨m.os,m.tape,m.output,m.size,fun b hb=>m.old b hb id⟩
theorem J2.merge{X:Cx}{σ:AS}{a:Act}{w w':World}{en er:List Ent}{t:Nat}{rob:List (Nat×AO)}{r:AV}{v:Value}(h:J2 X σ a w en)(m:Mem X.P w NoZ NoB er w')(hk:(er.map Ent.key).Perm rob)(hr:r.shows w' er (Imm w NoZ NoB er w') v)
  (hf:Qed X.fre t σ.ob rob=true) (ht:Nat.blt t σ.nt=true):Rel X ⟨σ.nt,(t,r.shift t)::σ.sl,Vb t rob++σ.ob⟩ (a.put (some t) v) w':=by
 have i:=Qb6 m
 have h0:=h.ext i
 have k:=h.mem
 have m1:=h0.mem
 have j:∀y∈en,∀b,y.hd b->b<w.heap.size:=fun y c b hb=>((k.ok y c).lth hb).1
 have aa:∀y∈er,∀b,y.hd b->w.heap.size<=b:=fun y c b hb=>(((m.ok y c).lth hb).2).resolve_left id
 have f:∀y∈er,y.ao.isRow=true/\YU X.fre (JA t y.nm) σ.ob=true:=fun y c=>Qez hf y.key (hk.mem_iff.1 (Xaf.2 ⟨y,c,rfl⟩))
 let g:Ent->Ent:=fun y=>{ y with nm:=JA t y.nm }
 have ad:∀b,Imm X.w0 X.Z X.O en w' b->b<w.heap.size->Imm X.w0 X.Z X.O (er.map g++en) w' b:=fun b hb af=>⟨hb.1,hb.2.1,fun y c=>by
  rcases Xag.1 c with c|c
  ·obtain⟨z,d,rfl⟩:=Xaf.1 c
   intro e
   have:=aa z d b e
   omega
  ·exact hb.2.2 y c⟩
 have ae:∀b,Imm w NoZ NoB er w' b->Imm X.w0 X.Z X.O (er.map g++en) w' b:=fun b hb=>by
  have af:w.heap.size<=b:=(hb.1.resolve_left id).resolve_left id
  refine⟨.inr (.inr (Xam k.size af)),hb.2.1,fun y c=>?_⟩
  rcases Xag.1 c with c|c
  ·obtain⟨z,d,rfl⟩:=Xaf.1 c
   exact hb.2.2 z d
  ·intro e
   have:=j y c b e
   omega
 have an:∀(x:AV) (u:Value),x.shows w en (IM X en w) u->x.shows w' (er.map g++en) (IM X (er.map g++en) w') u:=fun x u hxu=>
  AV.shows_mono i.size (fun b hb=>i.block b hb.2.1) (fun b hb=>ad b ⟨hb.1,XaO hb.2.1 i.size,hb.2.2⟩ hb.2.1) (fun y c=>⟨y,Xav _ c,rfl,rfl,rfl,rfl⟩) hxu
 have ag:Mem X.P X.w0 X.Z X.O (er.map g++en) w':=by
  refine⟨m1.os,m1.tape,m1.output,m1.size,m1.old,?_,?_,?_,?_,fun y c=>?_⟩
  ·rw[XaG,Xbg]
   refine⟨?_,k.names,?_⟩
   ·have:(er.map g).map Ent.nm=(er.map Ent.nm).map (JA t):=by simp only[XaR];rfl
    rw[this]
    exact XaX _ (fun x y hxy e=>hxy (QfD e)) m.names
   ·intro n hn n' am e
    subst e
    obtain⟨y,c,e1⟩:=Xaf.1 hn
    obtain⟨z,d,rfl⟩:=Xaf.1 c
    obtain⟨q,hq,e2⟩:=Xaf.1 am
    have h3:=(Q9 (f z d).2).1
    have:hasN (JA t z.nm) σ.ob=true:=Ji.2 ⟨q.key,h.ob.mem_iff.1 (Xaf.2 ⟨q,hq,rfl⟩),e2.trans e1.symm⟩
    rw[h3]at this;cases this
  ·rw[Xbk]
   refine⟨XaX _ (fun x y hxy=>hxy) m.blks,k.blks,fun y c z d b hb hb'=>?_⟩
   obtain⟨q,hq,rfl⟩:=Xaf.1 c
   have h1:=aa q hq b hb
   have h2:=j z d b hb'
   omega
  ·intro y c
   rcases Xag.1 c with c|c
   ·obtain⟨z,d,rfl⟩:=Xaf.1 c
    have ab:=m.ok z d
    have ah:=(f z d).1
    unfold EntOk at ab
    split at ab
    ·rename_i e es dp l
     obtain⟨s,us,k0,k1,k2,k3,k4,k5,k6,k7⟩:=ab
     unfold EntOk
     simp only[g,l]
     exact⟨s,us,k0,k1,k2,k3,k4,fun hd b hb=>ae b (k5 hd b hb),fun q hq=>.inr (Xam k.size ((k6 q hq).resolve_left id)),fun hd=>⟨(k7 hd).1,fun b hb=>⟨.inr (Xam k.size (((k7 hd).2.1 b hb).1.resolve_left id)),((k7 hd).2.1 b hb).2⟩,(k7 hd).2.2⟩⟩
    ·rename_i e cs l
     rw[l]at ah;cases ah
   ·have h3:=(k.ok y c).mono (p:=fun _=>true) (w':=w') (en':=er.map g++en) (I':=IM X (er.map g++en) w') (Fr':=Frs X.w0 X.O) i.size (fun b hb=>i.block b hb.2.1)
     (fun b hb=>ad b ⟨hb.1,XaO hb.2.1 i.size,hb.2.2⟩ hb.2.1) (fun _ hb=>hb) (fun b hb=>i.block b (j y c b hb)) (fun y c _=>⟨y,Xav _ c,rfl,rfl,rfl,rfl⟩)
    have e:y.cut (fun _=>true)=y:=by cases y;simp[Ent.cut,AO.cut_true]
    rwa [e]at h3
  ·rw[Xbk]
   refine⟨XaX _ (fun x y hxy=>hxy) m.apart,k.apart,fun y c z d hdy hdz b hb hb'=>?_⟩
   obtain⟨q,hq,rfl⟩:=Xaf.1 c
   have h1:w.heap.size<=b:=aa q hq b (.inr ⟨hdy,hb⟩)
   have h2:b<w.heap.size:=j z d b (.inr ⟨hdz,hb'⟩)
   omega
  ·rcases Xag.1 c with c|c
   ·obtain⟨z,d,rfl⟩:=Xaf.1 c
    exact X.Z.lo _ _ (Q9 (f z d).2).2
   ·exact k.fix y c
 have h2:J2 X ⟨σ.nt,σ.sl,Vb t rob++σ.ob⟩ a w' (er.map g++en):=by
  refine⟨ag,?_,h.defers,h.size,fun s=>an _ _ (h.slots s)⟩
  rw[XaG]
  refine XcJ ?_ h.ob
  rw[Qgc]
  have e:(er.map g).map Ent.key=(er.map Ent.key).map fun y=>(JA t y.1,y.2):=by simp only[XaR];rfl
  rw[e]
  exact hk.map _
 exact⟨_,h2.put (AV.shows_shift ae (fun x i=>⟨g x,Xat _ (Xaf.2 ⟨x,i,rfl⟩),rfl,rfl,rfl⟩) r v hr) ht⟩
section
variable {X:Cx} {σ:AS} {o:Oper} {K:AS->Prop} {t:Nat}
theorem Wq{P:Program}{o:Oper}{f:FuncId}{as:Array Operand}{ats:Array TypeId}(ho:o.op=.call { callee:=.value (.func f),args:=as,argTypes:=ats })(a:Act)(w:World) :
  (execOp a.eval o).run P w=(callFunc f (as.toList.map a.eval).toArray).run P w:=by
 have e:as.map a.eval=(as.toList.map a.eval).toArray:=by cases as;simp
 simp only[execOp,ho,resolve,e]
 simp[Act.eval,Deferred.ofValue,invoke]
theorem Qrb{f:FuncId}{as:Array Operand}{ats:Array TypeId}{xs rs:List AV}{rob:List (Nat×AO)}(hc:ACalls X.P f xs rs rob)(ho:o.op=.call { callee:=.value (.func f),args:=as,argTypes:=ats })(hd:o.dst=some t)
  (hx:σ.snaps as.toList=some xs) (hf:Qed X.fre t σ.ob rob=true) (ht:Nat.blt t σ.nt=true) (hK:K ⟨σ.nt,(t,(one rs).shift t)::σ.sl,Vb t rob++σ.ob⟩):OpOk X o σ K:=by
 intro a w b next Q h
 obtain⟨en,c⟩:=b
 obtain⟨d,g⟩:=hc w _ (ZN c hx)
 unfold Oper.wp
 rw[Wq ho,d,Oper.upon_enter]
 refine g.mono fun e w' ⟨v,er,he,m,hk,b⟩=>?_
 subst he
 rw[hd]
 exact h _ _ _ hK (c.merge m hk b hf ht)
end
end
section

def vput(σ:AS)(t:Nat)(v:AV):Option AS:=
 bif Nat.blt t σ.nt then(match v with
 | .any=>some (σ.put t .any)
 | .d (.n k x)=>some (σ.put t (.d (.n k x)))
 | .d (.b x)=>some (σ.put t (.d (.b x)))
 | .d (.s x)=>some (σ.put t (.d (.s x)))
 | .d (.sl x)=>some (σ.put t (.d (.sl x)))
 | .d .un=>some (σ.put t (.d .un))
 | .nil=>some (σ.put t .nil)
 | .row o=>some (σ.put t (.row o))
 | .ptr o i=>some (σ.put t (.ptr o i))
 | .pr o i j=>some (σ.put t (.pr o i j))
 | .pd e i=>some (σ.put t (.pd e i))
 | .agg xs=>some (σ.put t (.agg xs))
 | .tup xs=>some (σ.put t (.tup xs))
 | .clo g xs=>some (σ.put t (.clo g xs))
 | .sub o i j=>some (σ.put t (.sub o i j)))else none
theorem QW{σ σ':AS}{t:Nat}{v:AV}(h:vput σ t v=some σ'):σ'=σ.put t v/\Nat.blt t σ.nt=true:=by
 unfold vput at h
 cases hb:Nat.blt t σ.nt with
 | false=>rw[hb]at h;cases h
 | true=>
  rw[hb]at h
  simp only[cond_true]at h
  split at h <;> (injection h with h;exact⟨h.symm,rfl⟩)
def V2{α:Type}:List AV->(List AV->Option α)->Option α
 | [],k=>k []
 | x::xs,k=>V2 xs fun ys=>k (x::ys)
theorem YJ{α:Type}:∀(xs:List AV) (k:List AV->Option α),V2 xs k=k xs
 | [],k=>rfl
 | x::xs,k=>by rw[V2,YJ xs]
def cmpI(op:BinOp)(x y:Int):Option Bool:=
 match op with
 | .eql=>some (x==y)
 | .neq=>some (x != y)
 | .lss=>some (decide (x<y))
 | .leq=>some (decide (x<=y))
 | .gtr=>some (decide (y<x))
 | .geq=>some (decide (y<=x))
 | _=>none
def binA(σ:AS)(t:Nat)(op:BinOp)(bool:Bool)(x y:AV):Option AS:=
 match x with
 | .d (.n k p)=>match y with
  | .d (.n k' q)=>match decEq k k' with
   | .isTrue _=>match cmpI op p q with
    | some b=>vput σ t (.d (.b b))
    | none=>none
   | .isFalse _=>none
  | _=>none
 | .d (.s l)=>match y with
  | .d (.s r)=>match op with
   | .eql=>vput σ t (.d (.b (l==r)))
   | .neq=>vput σ t (.d (.b (l != r)))
   | _=>none
  | _=>none
 | .d (.b p)=>match y with
  | .d (.b q)=>bif bool then(match op with
   | .eql=>vput σ t (.d (.b (p==q)))
   | .neq=>vput σ t (.d (.b (p != q)))
   | _=>none)else none
  | _=>none
 | _=>none
def Qq0:TypeDesc->Bool
 | .bool=>true
 | _=>false
def QuQ(X:Cx)(T:TypeId):Bool:=match X.tt T with
 | some ti=>Qq0 ti.desc
 | none=>false
def newO(fre:Nat->Bool)(σ:AS)(t:Nat)(T:TypeId)(cs:List AV):Option AS:=
 bif Nat.blt t σ.nt then(bif YU fre t σ.ob then some ⟨σ.nt,(t,.ptr t 0)::σ.sl,(t,.box T cs)::YT t σ.ob⟩else none)else none
def aopV(X:Cx)(o:Oper)(σ:AS):Option AS:=
 match o.dst with
 | some t=>match o.op with
  | .move x=>vput σ t (σ.ev x)
  | .assign x=>vput σ t (σ.ev x)
  | .pick c x y=>match σ.ev c with
   | .d (.b q)=>match q with
    | true=>vput σ t (σ.ev x)
    | false=>vput σ t (σ.ev y)
   | _=>none
  | .extract x i=>match σ.ev x with
   | .tup xs=>match xs[i]? with
    | some v=>vput σ t v
    | none=>none
   | _=>none
  | .unOp .not _ x=>match σ.ev x with
   | .d (.b q)=>vput σ t (.d (.b (!q)))
   | _=>none
  | .nilCheck x=>match σ.ev x with
   | .ptr p i=>vput σ t (.ptr p i)
   | .pd e i=>vput σ t (.pd e i)
   | .clo g xs=>vput σ t (.clo g xs)
   | _=>none
  | .makeFunc (.func g) fs cs=>match fs.toList with
   | []=>V2 (cs.toList.map σ.ev) fun xs=>vput σ t (.clo g xs)
   | _=>none
  | .binOp op T x y _=>binA σ t op (QuQ X T) (σ.ev x) (σ.ev y)
  | .load T x=>match X.tt T with
   | some ti=>match σ.at (σ.ev x) with
    | some xs=>bif J5 ti.desc then V2 (xs.take ti.size) (fun ys=>bif Nat.beq ys.length ti.size then vput σ t (.agg ys)else none)
     else(match xs[0]? with
      | some v=>vput σ t v
      | none=>none)
    | none=>none
   | none=>none
  | .fieldAddr T x f=>match X.tt T with
   | some ti=>match Qdm ti.desc f with
    | some (off,ft)=>match X.tt ft with
     | some tf=>bif Nat.beq tf.size 0 then none else(match (σ.ev x) with
      | .ptr p i=>vput σ t (.ptr p (i+off))
      | .pr p i j=>vput σ t (.pr p i (j+off))
      | .pd e i=>vput σ t (.pd e (i+off))
      | _=>none)
     | none=>none
    | none=>none
   | none=>none
  | _=>none
 | none=>none
def aopM(X:Cx)(o:Oper)(σ:AS):Option AS:=
 match o.dst with
 | some t=>match o.op with
  | .alloc T=>match X.tt T with
   | some ti=>V2 (VB ti.zero) fun cs=>newO X.fre σ t T cs
   | none=>none
  | .box T x=>match (σ.ev x).cellsV with
   | some cs=>newO X.fre σ t T cs
   | none=>none
  | _=>none
 | none=>match o.op with
  | .store T x y=>match X.tt T with
   | some ti=>match σ.ev x with
    | .ptr p off=>match Ql σ.ob p with
     | some (.box e cs)=>match (σ.ev y).cellsV with
      | some xs=>bif Nat.beq xs.length ti.size then(bif Nat.ble (off+ti.size) cs.length then V2 (splice cs off xs) (fun ys=>some ⟨σ.nt,σ.sl,(p,.box e ys)::YT p σ.ob⟩)else none)else none
      | none=>none
     | _=>none
    | _=>none
   | none=>none
  | _=>none
def aop(X:Cx)(o:Oper)(σ:AS):Option AS:=match aopV X o σ with
 | some σ'=>some σ'
 | none=>aopM X o σ
def gOp(f:Oper->AS->Option AS)(ops:Array Oper)(o:Oper)(σ:AS):Option AS:=
 match o.guard with
 | none=>f o σ
 | some (j,w)=>match (ops[j]?).bind (·.dst) with
  | none=>none
  | some d=>match look σ.sl d with
   | .d (.b q)=>match q with
    | true=>match w with
     | true=>f o σ
     | false=>match o.dst with
      | some s=>vput σ s (.tup [])
      | none=>none
    | false=>match w with
     | false=>f o σ
     | true=>match o.dst with
      | some s=>vput σ s (.tup [])
      | none=>none
   | .tup []=>match o.dst with
    | some s=>vput σ s (.tup [])
    | none=>none
   | _=>none
def aopG(X:Cx)(ops:Array Oper)(o:Oper)(σ:AS):Option AS:=gOp (aop X) ops o σ
def aopQ(X:Cx)(ops:Array Oper)(o:Oper)(σ:AS):Option AS:=gOp (aopV X) ops o σ
section
variable {X:Cx} {σ σ':AS} {o:Oper} {K:AS->Prop} {Q:Exit->AS->Prop}
theorem Qt8{op:BinOp}{k:IntKind}{p q:Int}{b:Bool}(h:cmpI op p q=some b):binI op k p q=some (.b b):=by
 cases op <;> simp_all[cmpI,binI]
theorem QgI(h:aopV X o σ=some σ')(hK:K σ'):QOk X o σ K:=by
 unfold aopV at h
 split at h
 ·rename_i t n
  split at h
  ·rename_i x d
   obtain⟨rfl,a⟩:=QW h
   exact QoT d n rfl a hK
  ·rename_i x d
   obtain⟨rfl,a⟩:=QW h
   exact QhP d n rfl a hK
  ·rename_i c x y d
   split at h
   ·rename_i q hc
    split at h
    ·obtain⟨rfl,a⟩:=QW h
     exact QqY d n hc rfl a hK
    ·obtain⟨rfl,a⟩:=QW h
     exact QqY d n hc rfl a hK
   ·cases h
  ·rename_i x i d
   split at h
   ·rename_i xs m
    split at h
    ·rename_i v hv
     obtain⟨rfl,a⟩:=QW h
     exact Qm7 d n m hv a hK
    ·cases h
   ·cases h
  ·rename_i T x d
   split at h
   ·rename_i q m
    obtain⟨rfl,a⟩:=QW h
    exact QxQ d n m a hK
   ·cases h
  ·rename_i x d
   split at h
   ·rename_i p i m
    obtain⟨rfl,a⟩:=QW h
    exact QkA d n m a hK
   ·rename_i e i m
    obtain⟨rfl,a⟩:=QW h
    exact Qh1 d n m a hK
   ·rename_i g xs m
    obtain⟨rfl,a⟩:=QW h
    exact Qi4 d n m a hK
   ·cases h
  ·rename_i g fs cs d
   split at h
   ·rename_i ac
    rw[YJ]at h
    obtain⟨rfl,a⟩:=QW h
    have:fs=#[]:=by cases fs;simpa using ac
    subst this
    exact QkV d n rfl a hK
   ·cases h
  ·rename_i op T x y yt d
   unfold binA at h
   split at h
   ·rename_i k p m
    split at h
    ·rename_i k' q u
     split at h
     ·rename_i ad _
      subst ad
      split at h
      ·rename_i b hb
       obtain⟨rfl,a⟩:=QW h
       exact XL d n m u (Qt8 hb) a hK
      ·cases h
     ·cases h
    ·cases h
   ·rename_i l m
    split at h
    ·rename_i r u
     split at h
     ·obtain⟨rfl,a⟩:=QW h
      exact Qyf d n m u a hK
     ·obtain⟨rfl,a⟩:=QW h
      exact QwW d n m u a hK
     ·cases h
    ·cases h
   ·rename_i p m
    split at h
    ·rename_i q u
     cases s:QuQ X T with
     | false=>rw[s]at h;cases h
     | true=>
      rw[s]at h
      unfold QuQ at s
      split at s
      ·rename_i ti _
       have w:ti.desc=.bool:=by
        unfold Qq0 at s
        split at s
        ·assumption
        ·cases s
       simp only[cond_true]at h
       split at h
       ·obtain⟨rfl,a⟩:=QW h
        exact Qx7 (ti:=ti) w d n m u a hK
       ·obtain⟨rfl,a⟩:=QW h
        exact Qxx (ti:=ti) w d n m u a hK
       ·cases h
      ·cases s
    ·cases h
   ·cases h
  ·rename_i T x d
   split at h
   ·rename_i ti _
    split at h
    ·rename_i xs m
     cases ha:J5 ti.desc with
     | true=>
      rw[ha,cond_true,YJ]at h
      cases hl:Nat.beq (xs.take ti.size).length ti.size with
      | false=>rw[hl]at h;cases h
      | true=>
       rw[hl,cond_true]at h
       obtain⟨rfl,a⟩:=QW h
       exact Qly (ti:=ti) d n (by rw[m];rfl) hl ha a hK
     | false=>
      rw[ha,cond_false]at h
      split at h
      ·rename_i v hv
       obtain⟨rfl,a⟩:=QW h
       exact QlK (ti:=ti) d n (by rw[m];exact hv) ha a hK
      ·cases h
    ·cases h
   ·cases h
  ·rename_i T x f d
   split at h
   ·rename_i ti _
    split at h
    ·rename_i aj ft hf
     split at h
     ·rename_i tf _
      cases z:Nat.beq tf.size 0 with
      | true=>rw[z]at h;cases h
      | false=>
       rw[z,cond_false]at h
       split at h
       ·rename_i p i m
        obtain⟨rfl,a⟩:=QW h
        exact Qgh (ti:=ti) (tf:=tf) (v:=.ptr p i) d n hf z m rfl a hK
       ·rename_i p i j m
        obtain⟨rfl,a⟩:=QW h
        exact Qgh (ti:=ti) (tf:=tf) (v:=.pr p i j) d n hf z m rfl a hK
       ·rename_i e i m
        obtain⟨rfl,a⟩:=QW h
        exact Qgh (ti:=ti) (tf:=tf) (v:=.pd e i) d n hf z m rfl a hK
       ·cases h
     ·cases h
    ·cases h
   ·cases h
  ·cases h
 ·cases h
theorem Qvi(h:aopM X o σ=some σ')(hK:K σ'):OpOk X o σ K:=by
 unfold aopM at h
 split at h
 ·rename_i t d
  split at h
  ·rename_i T c
   split at h
   ·rename_i ti _
    rw[YJ]at h
    unfold newO at h
    cases hb:Nat.blt t σ.nt with
    | false=>rw[hb]at h;cases h
    | true=>
     rw[hb]at h
     cases b:YU X.fre t σ.ob with
     | false=>rw[b]at h;cases h
     | true=>
      rw[b]at h
      simp only[cond_true,Xak]at h
      subst h
      exact QtD (ti:=ti) c d b hb hK
   ·cases h
  ·rename_i T x c
   split at h
   ·rename_i j g
    unfold newO at h
    cases hb:Nat.blt t σ.nt with
    | false=>rw[hb]at h;cases h
    | true=>
     rw[hb]at h
     cases b:YU X.fre t σ.ob with
     | false=>rw[b]at h;cases h
     | true=>
      rw[b]at h
      simp only[cond_true,Xak]at h
      subst h
      exact QwV c d g b hb hK
   ·cases h
  ·cases h
 ·rename_i d
  split at h
  ·rename_i T x y c
   split at h
   ·rename_i ti _
    split at h
    ·rename_i p i g
     split at h
     ·rename_i e j k
      split at h
      ·rename_i m l
       cases f:Nat.beq m.length ti.size with
       | false=>rw[f]at h;cases h
       | true=>
        rw[f,cond_true]at h
        cases a:Nat.ble (i+ti.size) j.length with
        | false=>rw[a]at h;cases h
        | true=>
         rw[a,cond_true,YJ]at h
         simp only[Xak]at h
         subst h
         exact Qt9 (ti:=ti) c d g k l f a hK
      ·cases h
     ·cases h
    ·cases h
   ·cases h
  ·cases h
theorem Qlc(h:aop X o σ=some σ')(hK:K σ'):OpOk X o σ K:=by
 unfold aop at h
 split at h
 ·rename_i σ1 a
  injection h with h
  subst h
  exact(QgI a hK).ok
 ·exact Qvi h hK
theorem Qwi{ops:Array Oper}{l:List Oper}(h:aopG X ops o σ=some σ')(hK:QM X ops l Q σ'):QM X ops (o::l) Q σ:=by
 unfold aopG gOp at h
 split at h
 ·rename_i a
  exact Qg5 a (Qlc h hK)
 ·rename_i j w a
  split at h
  ·cases h
  ·rename_i d c
   split at h
   ·rename_i q b
    split at h
    ·split at h
     ·exact Qkb a c b (Qlc h hK)
     ·split at h
      ·rename_i s e
       obtain⟨rfl,f⟩:=QW h
       exact Qut a c b rfl e f hK
      ·cases h
    ·split at h
     ·exact Qkb a c b (Qlc h hK)
     ·split at h
      ·rename_i s e
       obtain⟨rfl,f⟩:=QW h
       exact Qut a c b rfl e f hK
      ·cases h
   ·rename_i b
    split at h
    ·rename_i s e
     obtain⟨rfl,f⟩:=QW h
     exact QwJ a c b e f hK
    ·cases h
   ·cases h
theorem Qwd{ops:Array Oper}{N:AS->Prop}{l:List Oper}(h:aopQ X ops o σ=some σ')(hK:QsOk X ops l N σ'):QsOk X ops (o::l) N σ:=by
 unfold aopQ gOp at h
 split at h
 ·rename_i a
  exact QoM a (QgI h hK)
 ·rename_i j w a
  split at h
  ·cases h
  ·rename_i d c
   split at h
   ·rename_i q b
    split at h
    ·split at h
     ·exact Qpv a c b (QgI h hK)
     ·split at h
      ·rename_i s e
       obtain⟨rfl,f⟩:=QW h
       exact Qyd a c b rfl e f hK
      ·cases h
    ·split at h
     ·exact Qpv a c b (QgI h hK)
     ·split at h
      ·rename_i s e
       obtain⟨rfl,f⟩:=QW h
       exact Qyd a c b rfl e f hK
      ·cases h
   ·rename_i b
    split at h
    ·rename_i s e
     obtain⟨rfl,f⟩:=QW h
     exact QxY a c b e f hK
    ·cases h
   ·cases h
end
structure QjK (p:Prop):Prop where
 go:p
theorem Qs{X:Cx}{Q:Exit->AS->Prop}{σ:AS}(h:QjK (Q .ret σ)):AWp X .ret Q σ:=Qe3 h.go
theorem eq_b{x:AV}{p q:Bool}(h:x=.d (.b p))(h2:QjK (p=q)):x=.d (.b q):=h2.go▸h
theorem eq_n{x:AV}{k:IntKind}{p q:Int}(h:x=.d (.n k p))(h2:QjK (p=q)):x=.d (.n k q):=h2.go▸h
theorem eq_s{x:AV}{p q:List UInt8}(h:x=.d (.s p))(h2:QjK (p=q)):x=.d (.s q):=h2.go▸h
theorem Qyl{x:AV}{p q:List (List D)}(h:x=.d (.sl p))(h2:QjK (p=q)):x=.d (.sl q):=h2.go▸h
theorem Qxi{x:AV}{p q:List AV}(h:x=.agg p)(h2:p=q):x=.agg q:=h2▸h
theorem QvO{l:List AV}{x y:AV}{p q:List AV}(h:l=x::p)(h1:x=y)(h2:p=q):l=y::q:=h1▸h2▸h
theorem Qxs{x:Option AO}{e:TypeId}{p q:List (List D)}{d:Bool}(h:x=some (.row e p d))(h2:QjK (p=q)):x=some (.row e q d):=h2.go▸h
theorem Qvr{x:Option AO}{e:TypeId}{p q:List AV}(h:x=some (.box e p))(h2:p=q):x=some (.box e q):=h2▸h

mutual
def AV.rigid:AV->Bool
 | .d (.n _ _)=>true
 | .d (.b _)=>true
 | .d (.s _)=>true
 | .nil=>true
 | .agg xs=>QdN xs
 | .tup xs=>QdN xs
 | _=>false
def QdN:List AV->Bool
 | []=>true
 | x::xs=>x.rigid&&QdN xs
end
mutual
def AV.val:AV->Value
 | .d (.n k x)=>.int k x
 | .d (.b t)=>.bool t
 | .d (.s l)=>.string ⟨l.toArray⟩
 | .nil=>.slice none 0 0
 | .agg xs=>.agg (valL xs).toArray
 | .tup xs=>.tuple (valL xs).toArray
 | _=>undef
def valL:List AV->List Value
 | []=>[]
 | x::xs=>x.val::valL xs
end
section
variable {w:World} {en:List Ent} {I:Nat->Prop}
mutual
theorem AV.rigid_val:∀(x:AV) (u:Value),x.rigid=true->x.shows w en I u->u=x.val
 | .d (.n k x),u,_,h=>by obtain⟨F,⟨h,_⟩,_⟩:=h;exact h
 | .d (.b t),u,_,h=>by obtain⟨F,⟨h,_⟩,_⟩:=h;exact h
 | .d (.s l),u,_,h=>by obtain⟨F,⟨h,_⟩,_⟩:=h;exact h
 | .nil,u,_,h=>h
 | .agg xs,u,hr,h=>by
  obtain⟨us,rfl,h⟩:=h
  rw[Qcj xs us hr h,AV.val]
 | .tup xs,u,hr,h=>by
  obtain⟨us,rfl,h⟩:=h
  rw[Qcj xs us hr h,AV.val]
theorem Qcj:∀(xs:List AV) (us:List Value),QdN xs=true->Qn w en I xs us->us=valL xs
 | [],us,_,h=>h
 | x::xs,us,hr,h=>by
  obtain⟨u,us',rfl,h1,h2⟩:=h
  simp only[QdN,Xac]at hr
  rw[AV.rigid_val x u hr.1 h1,Qcj xs us' hr.2 h2,valL]
end
mutual
theorem AV.rigid_shows:∀(x:AV),x.rigid=true->x.shows w en I x.val
 | .d (.n k x),_=>⟨[],⟨rfl,rfl⟩,by simp⟩
 | .d (.b t),_=>⟨[],⟨rfl,rfl⟩,by simp⟩
 | .d (.s l),_=>⟨[],⟨rfl,rfl⟩,by simp⟩
 | .nil,_=>rfl
 | .agg xs,h=>⟨_,rfl,XG xs h⟩
 | .tup xs,h=>⟨_,rfl,XG xs h⟩
theorem XG:∀(xs:List AV),QdN xs=true->Qn w en I xs (valL xs)
 | [],_=>rfl
 | x::xs,h=>by
  simp only[QdN,Xac]at h
  exact⟨_,_,rfl,AV.rigid_shows x h.1,XG xs h.2⟩
end
end
section
variable {X:Cx} {σ:AS} {o:Oper} {K:AS->Prop} {t:Nat}
section num
variable {p q:Int} {m n:Nat} {xt yt:TypeId} {x y:Operand}
end num

def AS.els(σ:AS):AV->Option (List (List D))
 | .d (.sl es)=>some es
 | .nil=>some []
 | .row p=>match Ql σ.ob p with
  | some (.row _ es _)=>some es
  | _=>none
 | _=>none
def Qdt:TypeDesc->Option TypeId
 | .slice e=>some e
 | _=>none
def JD(X:Cx)(T:TypeId):Option TypeId:=match X.tt T with
 | some ti=>Qdt ti.desc
 | none=>none
theorem QO{T e:TypeId}(h:JD X T=some e):X.P.underlying T=some (.slice e):=by
 unfold JD at h
 split at h
 ·rename_i b _
  unfold Qdt at h
  split at h
  ·rename_i a
   injection h with h
   subst h
   exact a▸b.und
  ·cases h
 ·cases h
def Qec:TypeDesc->Bool
 | .string=>true
 | _=>false
def ZK(X:Cx)(T:TypeId):Bool:=match X.tt T with
 | some b=>Qec b.desc
 | none=>false
theorem WG{T:TypeId}(h:ZK X T=true):X.P.underlying T=some .string:=by
 unfold ZK at h
 split at h
 ·rename_i b _
  unfold Qec at h
  split at h
  ·rename_i a
   exact a▸b.und
  ·cases h
 ·cases h
theorem Xm{a:Act}{w:World}{en:List Ent}(h:J2 X σ a w en){v:AV}{es:List (List D)}{u:Value}(hv:σ.els v=some es)(hs:v.shows w en (IM X en w) u) :
  ∃A cap,u=.slice A es.length cap/\es.length<=cap/\cap<=maxLen/\(A=none->cap=0)/\∃F,(D.sl es).rep w u F:=by
 cases v with
 | d x=>
  cases x with
  | sl f=>
   simp only[AS.els,Xak]at hv
   subst hv
   obtain⟨F,c,_⟩:=hs
   have g:=c
   obtain⟨A,cap,z,r,F',b,i,j,k,_⟩:=c
   exact⟨A,cap,b,i,j,k,F,g⟩
  | _=>cases hv
 | nil=>
  simp only[AS.els,Xak]at hv
  subst hv
  rw[show u=.slice none 0 0 from hs]
  exact⟨none,0,rfl,Xaj _,Xae _,fun _=>rfl,[],none,0,0,[],[],rfl,Xaj _,Xae _,fun _=>rfl,by simp,⟨rfl,rfl⟩,.inl ⟨rfl,rfl⟩⟩
 | row p=>
  simp only[AS.els]at hv
  split at hv
  ·rename_i e f dp n
   injection hv with hv
   subst hv
   obtain⟨y,o,m,q,F,c,_⟩:=QaR h n
   obtain⟨y',l,b,e2,rfl⟩:=hs
   have:=h.mem.ent_unique l o (b.trans m.symm)
   subst this
   have g:=c
   obtain⟨A,cap,z,r,F',b,i,j,k,_⟩:=c
   exact⟨A,cap,b,i,j,k,F,g⟩
  ·cases hv
 | _=>cases hv
theorem Qqk{T e:TypeId}{x y:Operand}{es:List (List D)}{el:List D}{i:Int}{j n:Nat}[te:TI X.P e](ho:o.op=.indexAddr T x y)(hd:o.dst=some t)(hT:JD X T=some e)(hx:σ.ev x=.d (.sl es))(hy:σ.ev y=.d (.n .i64 i))(hj:i=(j:Int))(hn:es.length=n)
  (hlt:j<n) (hel:es[j]?=some el) (hz:Nat.beq el.length te.size=true) (ht:Nat.blt t σ.nt=true) (hK:K (σ.put t (.pd el 0))):QOk X o σ K:=by
 unfold JD at hT
 split at hT
 ·rename_i ti _
  unfold Qdt at hT
  split at hT
  ·rename_i a
   injection hT with hT
   subst hT
   exact Qya (ti:=ti) (te:=te) a ho hd hx hy (by omega) (by rw[hj];exact hel) hz ht hK
  ·cases hT
 ·cases hT
def nth{α:Type}[Inhabited α](l:List α)(j:Nat):α:=l.getD j default
theorem QcG{α β:Type}[Inhabited α]{f:α->β}{l:List α}{j:Nat}(h:j<l.length):(l.map f)[j]?=some (f (nth l j)):=by
 simp[nth,List.getD,h]
end

def lenE(es:List (List D))(z:Nat):Prop:=∀e∈es,e.length=z
def D.flat1:D->Bool
 | .sl _=>false
 | _=>true
def Wg(es:List (List D)):Bool:=es.all fun e=>e.all D.flat1
theorem Jl{e:List D}(h:e.all D.flat1=true):e.all D.flat=true:=by
 rw[XaD]at h ⊢
 intro d a
 have:=h d a
 cases d <;> first|rfl|cases this
theorem Yt{es:List (List D)}(h:Wg es=true):∀e∈es,e.all D.flat=true:=fun e he=>Jl (by
 unfold Wg at h
 rw[XaD]at h
 exact h e he)
theorem QoB{w:World}{es:List (List D)}{u:Value}{F:List Nat}{z:Nat}(h:(D.sl es).rep w u F)(hz:lenE es z) :
  ∃A cap us F',u=.slice A es.length cap/\Rd w z A es.length cap us/\repE w es us F'/\∀b∈F',b∈F:=by
 obtain⟨A,cap,z',us,F',d,f,g,i,h5,c,a⟩:=h
 refine⟨A,cap,us,F',d,⟨?_,f,⟨by unfold maxLen at g;omega,i⟩,fun hn=>?_⟩,c,fun b hb=>?_⟩
 ·exact Jh c hz
 ·rcases a with ⟨a,_⟩|⟨a,b,o,h8,h9,h10,h11⟩
  ·subst a;simp at hn
  ·exact⟨b,o,h8,h11⟩
 ·rcases a with ⟨a,_⟩|⟨a,b',o,h8,h9,h10,h11⟩
  ·subst a
   obtain⟨_,e⟩:=c
   rw[e]at hb;cases hb
  ·rw[h10];exact Xad _ hb
theorem Y1{P:Program}{w:World}(base:Nat)(t ty e:TypeId)(i:TypeInfo)(z:Value)(size bytes:Nat)(ht:P.underlying t=some (.slice e))(hi:P.info? e=some i)(hz:i.zero=some z)
  (hsize:i.size=size) (hby:i.bytes=bytes) (hzs:z.cells.size=size) (hsz:0<size) (v:Value) (n:Nat) (xs:List Value) (hown:w.ownsRow base e size v n xs)
  (A:Option Addr) (m c:Nat) (news:List Value) (hr:Rd w size A m c news) (h1:∀u∈news,u.oneCell'=true) (h63:n+m<=maxLen) (hbytes:((n+m)+(n+m) / 4+192)*bytes<=281474976710656) (hbase:base<=w.heap.size) :
  ∃v' w',(Builtin.append_ #[t,t] ty #[v,.slice A m c]).run P w=.ok v' w'/\w'.ownsRow base e size v' (n+m) (xs++news)/\w.grownBy w' v.ownBlock/\∀b,blk v'=some b->w.heap.size<=b\/blk v=some b:=by
 cases A with
 | none=>
  have l:m=0:=by
   rcases Nat.eq_zero_or_pos m with h0|h0
   ·exact h0
   ·obtain⟨b,of,e,_⟩:=hr.2.2.2 h0
    cases e
  have p:=hr.2.2.1.2 rfl
  subst l;subst p
  have a:news=[]:=Xaz (by rw[hr.1,Xbo])
  subst a
  exact⟨v,w,run_append_owned_none (P:=P) w base t ty e i size ht hi v n xs hown,by simpa using hown,World.grownBy.refl _ _,fun b hb=>.inr hb⟩
 | some ad=>
  have a:∀j u,news[j]?=some u->w.cell? (ad.add j)=some u:=fun j u hu=>by
   have l:0<m:=by
    have q:=(List.getElem?_eq_some_iff.1 hu).1
    rw[hr.1]at q
    exact Nat.pos_of_ne_zero (fun e=>by subst e;simp at q)
   obtain⟨b,of,e,p⟩:=hr.2.2.2 l
   injection e with e
   subst e
   rw[Yl]
   exact p j u hu
  obtain⟨v',w',o,r,s,x⟩:=run_append_own_wide (P:=P) w base t ty e i z size bytes ht hi hz hsize hby hzs hsz v n xs hown ad m c news hr.1 a h1 h63 hbytes hbase
  refine⟨v',w',o,r,s,fun b hb=>?_⟩
  have y:n+m<=9223372036854775807:=by unfold maxLen at h63;omega
  subst hsize
  subst hby
  rcases hown.2 with ⟨rfl,rfl⟩|⟨g,cap,cur,rfl,hbg,hg,hnc,hcm,hcs,htake⟩
  ·by_cases l:m=0
   ·rw[x.2 ⟨rfl,l⟩]at hb;cases hb
   ·have d:=run_append_nil (P:=P) w t ty e i z ht hi hz ad m c news hr.1 a (by omega) (by omega) (by have hb:=hbytes;simp only[XaZ]at hb;exact Xam (XaI _ (by omega)) hb)
    rw[o]at d
    injection d with e1 e2
    rw[e1]at hb
    simp only[blk,Xak]at hb
    exact .inl (XbU hb)
  ·by_cases f:n+m<=cap
   ·have k:n*i.size+news.length<=cur.size:=by rw[hr.1,hcs,<-XaU];exact XaI _ f
    have d:=run_append_room (P:=P) w t ty e i ht hi g n cap cur hg ad m c news hr.1 a h1 f k
    rw[o]at d
    injection d with e1 e2
    rw[e1]at hb
    exact .inr hb
   ·have h:∀j u,xs[j]?=some u->w.cell? ((⟨g,0,none⟩:Addr).add j)=some u:=hown.cells (g:=g) rfl
    have d:=run_append_grow (P:=P) w t ty e i z ht hi hz ⟨g,0,none⟩ n cap xs hown.1 h ad m c news hr.1 a (by omega) (by omega) (growslice_fits_wide (by omega) hbytes)
    rw[o]at d
    injection d with e1 e2
    rw[e1]at hb
    simp only[blk,Xak]at hb
    exact .inl (XbU hb)
theorem Xe{n bytes:Nat}(h:n<=1099511627776)(hb:Nat.ble bytes 200=true):(n+n / 4+192)*bytes<=281474976710656:=by
 have a:bytes<=200:=XaL hb
 have b:n+n / 4+192<=1374389534912:=by omega
 exact Xam (Nat.mul_le_mul b a) (by omega)
theorem QgU{w:World}{base e z n:Nat}{v:Value}{us:List Value}(h:w.ownsRow base e z v n us):v.ownBlock=blk v:=by
 obtain⟨A,c,b,_⟩:=JK h
 rw[b]
 cases A <;> rfl

section
variable {X:Cx} {σ:AS} {o:Oper} {K:AS->Prop} {t:Nat}
theorem QxE{v:AV}(hd:o.dst=some t)(ht:Nat.blt t σ.nt=true)(h:∀a w en,J2 X σ a w en->∃u w',(execOp a.eval o).run X.P w=.ok (.value u) w'/\Ext w w'/\v.shows w' en (IM X en w') u)(hK:K (σ.put t v)):OpOk X o σ K:=by
 intro a w i next Q g
 obtain⟨en,b⟩:=i
 obtain⟨u,w',c,e,f⟩:=h a w en b
 unfold Oper.wp
 rw[c,Oper.upon_value,hd]
 exact g _ _ _ hK ⟨en,(b.ext e).put f ht⟩

def AS.low(σ:AS):Option Operand->Option Int
 | none=>some 0
 | some x=>match σ.ev x with
  | .d (.n .i64 p)=>some p
  | _=>none
def AS.high(σ:AS)(n:Nat):Option Operand->Option Int
 | none=>some n
 | some x=>match σ.ev x with
  | .d (.n .i64 p)=>some p
  | _=>none
theorem Qht{a:Act}{w:World}{en:List Ent}(h:J2 X σ a w en){lo:Option Operand}{i:Nat}(hl:σ.low lo=some (i:Int)):(lo.map a.eval=none/\i=0)\/lo.map a.eval=some (.int .i64 i):=by
 cases lo with
 | none=>
  simp only[AS.low,Xak]at hl
  exact .inl ⟨rfl,by omega⟩
 | some x=>
  simp only[AS.low]at hl
  split at hl
  ·rename_i p b
   injection hl with hl
   subst hl
   obtain⟨F,⟨e,_⟩,_⟩:=QT h b
   exact .inr (by simp[e])
  ·cases hl
theorem Qdk{a:Act}{w:World}{en:List Ent}(h:J2 X σ a w en){lo:Option Operand}{n i:Nat}(hl:σ.high n lo=some (i:Int)):(lo.map a.eval=none/\i=n)\/lo.map a.eval=some (.int .i64 i):=by
 cases lo with
 | none=>
  simp only[AS.high,Xak]at hl
  exact .inl ⟨rfl,by omega⟩
 | some x=>
  simp only[AS.high]at hl
  split at hl
  ·rename_i p b
   injection hl with hl
   subst hl
   obtain⟨F,⟨e,_⟩,_⟩:=QT h b
   exact .inr (by simp[e])
  ·cases hl
theorem XT{P:Program}{w:World}{isS:Bool}{len cap i j:Nat}{lo hi:Option Value}(hlo:(lo=none/\i=0)\/lo=some (.int .i64 i))(hhi:(hi=none/\j=len)\/hi=some (.int .i64 j))(hij:i<=j)(hj:j<=cap) :
  (Instr.sliceBounds isS len cap lo hi none).run P w=.ok (i,j,cap) w:=by
 have b:∀(x y:Nat) (c:BoundsCode) (w:World),x<=y->(Instr.sliceBound (.int .i64 (x:Int)) y c).run P w=.ok x w:=fun x y c w h=>by
  rw[run_sliceBound w .i64 x y c (by omega) (by omega)];simp
 rcases hlo with ⟨rfl,rfl⟩|rfl <;> rcases hhi with ⟨rfl,rfl⟩|rfl <;> simp[Instr.sliceBounds, *]
end

theorem XM{w:World}:∀{es:List (List D)} {us:List Value} {F:List Nat},repE w es us F->∀u∈us,u.oneCell'=true:=fun h=>XB h
structure VS {P:Program} {e:TypeId} (te:TI P e):Prop where
 pos:Nat.blt 0 te.size=true
 zero:Nat.beq te.zero.cells.size te.size=true
 bytes:Nat.ble te.bytes 200=true
section
variable {X:Cx} {σ:AS} {o:Oper} {K:AS->Prop} {t:Nat}
def notN(p:Nat):Nat->Bool:=fun n=>!Nat.beq n p
theorem QjT{p n:Nat}(h:n≠p):notN p n=true:=by
 unfold notN
 cases hb:Nat.beq n p with
 | false=>rfl
 | true=>exact absurd ((Qg n p).1 hb) h
theorem Zd(p:Nat):notN p p=false:=by unfold notN;rw[(Qg p p).2 rfl];rfl
theorem Qct{ao:AO}{v:AV}(hd:o.dst=some t)(ht:Nat.blt t σ.nt=true)(hf:YU X.fre t σ.ob=true)
  (h:∀a w en,J2 X σ a w en->∃(u:Value) (fs:List Nat) (w':World),(execOp a.eval o).run X.P w=.ok (.value u) w'/\Ext w w'/\
   (∀en',(⟨t,ao,u,fs⟩:Ent)∈en'->v.shows w' en' (IM X en' w') u)/\(∀b,blk u=some b->w.heap.size<=b)/\
   ((∀(b:Nat),Imm X.w0 X.Z X.O en w b->Imm X.w0 X.Z X.O (⟨t,ao,u,fs⟩::JP (fun _=>true) t en) w' b)->
    (∀(y:AV) (q:Value),y.shows w en (IM X en w) q->y.shows w' (⟨t,ao,u,fs⟩::JP (fun _=>true) t en) (IM X (⟨t,ao,u,fs⟩::JP (fun _=>true) t en) w') q)->
    EntOk X.P (Frs X.w0 X.O) w' (⟨t,ao,u,fs⟩::JP (fun _=>true) t en) (IM X (⟨t,ao,u,fs⟩::JP (fun _=>true) t en) w') ⟨t,ao,u,fs⟩)/\
   (ao.deep=true->fs=[]))
  (hK:K ⟨σ.nt,(t,v)::σ.sl,(t,ao)::YT t σ.ob⟩):OpOk X o σ K:=by
 intro a w s next Q r
 obtain⟨en,d⟩:=s
 obtain⟨u,fs,w',k,c,l,m,n,j⟩:=h a w en d
 have f:∀x∈en,x.nm≠t:=fun x c e=>by
  have:hasN t σ.ob=true:=Ji.2 ⟨x.key,d.ob.mem_iff.1 (Xaf.2 ⟨x,c,rfl⟩),e⟩
  rw[(Q9 hf).1]at this;cases this
 have g:Qfi X.P X.w0 X.Z X.O en w w' t ⟨t,ao,u,fs⟩ (fun _=>true):=
  ⟨d.mem,fun _ _=>rfl,fun _ x c e=>absurd e (f x c),c.os,c.tape,c.output,c.size,fun b hb _=>c.block b hb,fun b hb=>by
   rcases hb with hb|⟨hd,hb⟩
   ·exact .inl (m b hb)
   ·exact absurd hb (by rw[j hd];simp),rfl,X.Z.lo _ _ (Q9 hf).2⟩
 have p:=d.swap_keep g (n (fun b hb=>g.imm hb) (fun y q hy=>by have:=g.shows hy;rwa [AV.cut_true]at this)) (fun hd y hy _ hdy b hb=>absurd hb (by rw[show(⟨t,ao,u,fs⟩:Ent).fs=[] from j hd];simp))
 unfold Oper.wp
 rw[k,Oper.upon_value,hd]
 exact r _ _ _ hK ⟨_,p.put (l _ Xaa) ht⟩
def QkH(size:Nat):List AV->List (Nat×AV)->Option (List AV)
 | cs,[]=>some cs
 | cs,(i,v)::rest=>match v.cellsV with
  | some xs=>bif Nat.beq xs.length size then(bif Nat.ble (i*size+size) cs.length then V2 (splice cs (i*size) xs) (fun cs'=>QkH size cs' rest)else none)else none
  | none=>none
theorem Qcm{α:Type}{xs ys:List α}{k:Nat}(h:k+ys.length<=xs.length)(j:Nat):(splice xs k ys)[j]?=if k<=j/\j<k+ys.length then ys[j-k]? else xs[j]?:=by
 unfold splice
 have c:(xs.take k).length=k:=by simp;omega
 by_cases a:j<k
 ·rw[if_neg (by omega),Xao,List.getElem?_append_left (by omega),List.getElem?_take,if_pos a]
 ·rw[Xao,List.getElem?_append_right (by omega),c]
  by_cases b:j<k+ys.length
  ·rw[if_pos ⟨by omega,b⟩,List.getElem?_append_left (by omega)]
  ·rw[if_neg (by omega),List.getElem?_append_right (by omega),List.getElem?_drop]
   congr 1
   omega
theorem QcJ(off:Nat)(l:List Value)(cs:Array Value)(s:Nat)(h:off+s+l.length<=cs.size) :
  ((l.zipIdx s).foldl (fun cs (x:Value×Nat)=>cs.setIfInBounds (off+x.2) x.1) cs).toList=splice cs.toList (off+s) l:=by
 obtain⟨h1,a⟩:=Great.foldl_set off l s cs
 apply List.ext_getElem?
 intro k
 rw[Qcm (by simpa using h),Array.getElem?_toList,Array.getElem?_toList,a k]
 by_cases c:off+s<=k/\k<off+s+l.length
 ·rw[if_pos ⟨c.1,c.2,by omega⟩,if_pos c]
  simp
 ·rw[if_neg (fun q=>c ⟨q.1,q.2.1⟩),if_neg c]
  simp
theorem Qc7{w:World}{en:List Ent}{P:Program}{w0:World}{f:Nat->Bool}{Z:ZV f}{O:Nat->Prop}(hm:Mem P w0 Z O en w){size:Nat}:∀{parts:List (Nat×AV)} {vs:List (Nat×Value)} {cs cs':List AV} {cells:Array Value},QkH size cs parts=some cs'->
  Qn w en (Imm w0 Z O en w) cs cells.toList->(∀u∈cells.toList,u.oneCell'=true)->vs.map Prod.fst=parts.map Prod.fst->Qn w en (Imm w0 Z O en w) (parts.map Prod.snd) (vs.map Prod.snd)->
  ∃r,Instr.fill (fun i=>some (i*size,size)) cells vs=some r/\Qn w en (Imm w0 Z O en w) cs' r.toList/\∀u∈r.toList,u.oneCell'=true
 | [],vs,cs,cs',cells,hf,hc,h1,hv,_=>by
  injection hf with hf
  subst hf
  obtain rfl:vs=[]:=by simpa using hv
  exact⟨cells,rfl,hc,h1⟩
 | (i,x)::parts,vs,cs,cs',cells,hf,hc,h1,hv,hs=>by
  simp only[QkH]at hf
  match vs,hv,hs with
  | (i',v)::vs,hv,hs=>
   simp only[Xas,XbC]at hv
   obtain⟨rfl,hv2⟩:=hv
   obtain⟨u,us',e0,h2,h3⟩:=hs
   simp only[Xas,XbC]at e0
   obtain⟨rfl,rfl⟩:=e0
   split at hf
   ·rename_i xs hx
    cases b1:Nat.beq xs.length size with
    | false=>rw[b1]at hf;cases hf
    | true=>
     cases b2:Nat.ble (i'*size+size) cs.length with
     | false=>rw[b1,b2]at hf;cases hf
     | true=>
      rw[b1,b2]at hf
      simp only[cond_true,YJ]at hf
      obtain⟨h4,h5⟩:=YH hm hx h2
      have hsz:v.cells.size=size:=by rw[<-Xax,QD h4];exact(Qg _ _).1 b1
      have hcl:cells.size=cs.length:=by rw[<-Xax];exact QD hc
      have hfit:i'*size+size<=cells.size:=by rw[hcl];exact XaL b2
      have hfold:(v.cells.zipIdx.foldl (fun cs (x:Value×Nat)=>cs.setIfInBounds (i'*size+x.2) x.1) cells).toList=splice cells.toList (i'*size) v.cells.toList:=by
       rw[<-Array.foldl_toList,Array.toList_zipIdx]
       have h0:=QcJ (i'*size) v.cells.toList cells 0 (by simp;omega)
       rw[XbK]at h0
       exact h0
      have g1:=ZP hc h4 (i'*size)
      rw[<-hfold]at g1
      have g2:∀u∈(v.cells.zipIdx.foldl (fun cs (x:Value×Nat)=>cs.setIfInBounds (i'*size+x.2) x.1) cells).toList,u.oneCell'=true:=by
       rw[hfold]
       intro u hu
       simp only[splice,Xag]at hu
       rcases hu with (hu|hu)|hu
       ·exact h1 u (XaE hu)
       ·exact h5 u hu
       ·exact h1 u (XaM hu)
      obtain⟨r,r1,r2,r3⟩:=Qc7 hm hf g1 g2 hv2 h3
      refine⟨r,?_,r2,r3⟩
      unfold Instr.fill
      simp only[hsz]
      rw[if_neg (by simp;omega)]
      exact r1
   ·cases hf
def YY:List AV->Option (List D)
 | []=>some []
 | .d x::l=>match YY l with
  | some ds=>some (x::ds)
  | none=>none
 | .nil::l=>match YY l with
  | some ds=>some (.sl []::ds)
  | none=>none
 | _::_=>none
theorem YB{w:World}{en:List Ent}{I:Nat->Prop}:∀{xs:List AV} {ds:List D} {us:List Value},YY xs=some ds->Qn w en I xs us->∃F,repL w ds us F/\∀b∈F,I b
 | [],ds,us,h,hs=>by
  injection h with h;subst h
  exact⟨[],⟨hs,rfl⟩,by simp⟩
 | x::xs,ds,us,h,hs=>by
  obtain⟨u,us',rfl,h1,h2⟩:=hs
  cases x with
  | d y=>
   simp only[YY]at h
   split at h
   ·rename_i ds' hd
    injection h with h;subst h
    obtain⟨F2,k1,k2⟩:=YB hd h2
    obtain⟨F1,k3,k4⟩:=h1
    exact⟨F1++F2,⟨u,us',F1,F2,rfl,rfl,k3,k1⟩,fun b hb=>(Xag.1 hb).elim (k4 b) (k2 b)⟩
   ·cases h
  | nil=>
   simp only[YY]at h
   split at h
   ·rename_i ds' hd
    injection h with h;subst h
    obtain⟨F2,k1,k2⟩:=YB hd h2
    refine⟨F2,⟨u,us',[],F2,rfl,rfl,?_,k1⟩,k2⟩
    rw[show u=.slice none 0 0 from h1]
    exact⟨none,0,0,[],[],rfl,Xaj _,Xae _,fun _=>rfl,by simp,⟨rfl,rfl⟩,.inl ⟨rfl,rfl⟩⟩
   ·cases h
  | _=>cases h
theorem VV:∀{cs:List AV} {ds:List D},YY cs=some ds->cs.length=ds.length
 | [],ds,h=>by injection h with h;subst h;rfl
 | x::cs,ds,h=>by
  cases x with
  | d y=>
   simp only[YY]at h
   split at h
   ·rename_i ds' hd
    injection h with h;subst h
    simp[VV hd]
   ·cases h
  | nil=>
   simp only[YY]at h
   split at h
   ·rename_i ds' hd
    injection h with h;subst h
    simp[VV hd]
   ·cases h
  | _=>cases h
def chunk(z:Nat):Nat->List D->List (List D)
 | 0,_=>[]
 | n+1,l=>l.take z::chunk z n (l.drop z)
theorem Qdg{w:World}{z:Nat}:∀{n:Nat} {ds:List D} {us:List Value} {F:List Nat},ds.length=n*z->repL w ds us F->repE w (chunk z n ds) us F/\lenE (chunk z n ds) z/\(chunk z n ds).length=n
 | 0,ds,us,F,hl,h=>by
  have:ds=[]:=Xaz (by simpa using hl)
  subst this
  exact⟨h,(fun e he=>by cases he),rfl⟩
 | n+1,ds,us,F,hl,h=>by
  rw[XaU,XbV]at hl
  rw[<-XaK z ds]at h
  obtain⟨u1,u2,F1,F2,rfl,rfl,k1,k2⟩:=Qch h
  obtain⟨g1,g2,g3⟩:=Qdg (z:=z) (n:=n) (by simp;omega) k2
  refine⟨⟨u1,u2,F1,F2,rfl,rfl,k1,g1⟩,fun e he=>?_,by simp[chunk,g3]⟩
  rcases Xai.1 he with rfl|he
  ·simp;omega
  ·exact g2 e he
def Z2{α:Type}:List D->(List D->Option α)->Option α
 | [],k=>k []
 | x::xs,k=>match x with
  | .n t v=>Z2 xs fun ys=>k (.n t v::ys)
  | .b v=>Z2 xs fun ys=>k (.b v::ys)
  | .s v=>Z2 xs fun ys=>k (.s v::ys)
  | .sl v=>Z2 xs fun ys=>k (.sl v::ys)
  | .un=>Z2 xs fun ys=>k (.un::ys)
theorem Xd{α:Type}:∀(xs:List D) (k:List D->Option α),Z2 xs k=k xs
 | [],k=>rfl
 | x::xs,k=>by cases x <;> rw[Z2,Xd xs]
def QeK{α:Type}:List (List D)->(List (List D)->Option α)->Option α
 | [],k=>k []
 | e::es,k=>Z2 e fun e'=>QeK es fun es'=>k (e'::es')
theorem Qba{α:Type}:∀(es:List (List D)) (k:List (List D)->Option α),QeK es k=k es
 | [],k=>rfl
 | e::es,k=>by rw[QeK,Xd,Qba es]
def AS.evParts(σ:AS):List (Nat×Operand)->List (Nat×AV)
 | []=>[]
 | (i,x)::l=>(i,σ.ev x)::σ.evParts l
theorem ZE{a:Act}{w:World}{en:List Ent}(h:J2 X σ a w en):∀(l:List (Nat×Operand)),(l.map fun x=>(x.1,a.eval x.2)).map Prod.fst=(σ.evParts l).map Prod.fst/\Qn w en (IM X en w) ((σ.evParts l).map Prod.snd) ((l.map fun x=>(x.1,a.eval x.2)).map Prod.snd)
 | []=>⟨rfl,rfl⟩
 | (i,x)::l=>by
  obtain⟨h1,h2⟩:=ZE h l
  refine⟨by simp only[AS.evParts,Xas,h1],_,_,rfl,AS.ev_shows h x,h2⟩
def Qf2(z:Value):Nat->List AV
 | 0=>[]
 | n+1=>VB z++Qf2 z n
theorem X7{w:World}{en:List Ent}{I:Nat->Prop}(z:Value):∀(n:Nat),Qn w en I (Qf2 z n) (List.replicate n z.cells.toList).flatten
 | 0=>rfl
 | n+1=>by
  rw[List.replicate_succ,XbM]
  exact Yg (YL _) (X7 z n)
theorem QdS{z:Value}(h:z.cells.toList.all Value.oneCell'=true):∀(n:Nat),∀u∈(List.replicate n z.cells.toList).flatten,u.oneCell'=true:=by
 intro n u a
 rw[List.mem_flatten]at a
 obtain⟨l,b,a⟩:=a
 rw[Xbs b]at a
 exact XaD.1 h u a
end

theorem Ys{w:World}{e:List D}{us:List Value}(h:repL w e us []):∀(n:Nat),repE w (List.replicate n e) (List.replicate n us).flatten []
 | 0=>⟨rfl,rfl⟩
 | n+1=>⟨us,(List.replicate n us).flatten,[],[],rfl,rfl,h,Ys h n⟩
section
variable {X:Cx} {σ:AS} {o:Oper} {K:AS->Prop} {t:Nat}
theorem QaH{α:Type}{u1 u2 ys:List α}{k:Nat}(h:k+ys.length<=u1.length):splice (u1++u2) k ys=splice u1 k ys++u2:=by
 unfold splice
 rw[Xbe (by omega),XbJ h,Xao,Xao,Xao]
theorem Z6{α:Type}{u1 u2 ys:List α}{k:Nat}:splice (u1++u2) (u1.length+k) ys=u1++splice u2 k ys:=by
 unfold splice
 rw[Xb3,XbH,List.drop_length_add_append,Xao,Xao,Xao]
theorem Q0{α:Type}{xs ys:List α}{k:Nat}(h:k+ys.length<=xs.length):(splice xs k ys).length=xs.length:=by
 unfold splice
 simp only[Xab,Xah,XaP]
 omega
theorem ZS{α:Type}{xs ys:List α}{k n:Nat}(h:k+ys.length<=n):(splice xs k ys).take n=splice (xs.take n) k ys:=by
 unfold splice
 apply List.ext_getElem?
 intro j
 simp only[Xao,List.getElem?_take,List.getElem?_append,Xah,List.getElem?_drop]
 by_cases b:j<n
 ·rw[if_pos b]
  by_cases hx:n<=xs.length
  ·have a:min k (min n xs.length)=min k xs.length:=by omega
   rw[a]
   repeat' split
   all_goals first|rfl|omega|(congr 1;omega)
  ·have a:min k (min n xs.length)=min k xs.length:=by omega
   rw[a]
   repeat' split
   all_goals first|rfl|omega|(congr 1;omega)|(rw[List.getElem?_eq_none (by omega)])
 ·rw[if_neg b]
  repeat' split
  all_goals first|rfl|omega
theorem Qbx{w:World}:∀{ds:List D} {us:List Value} {F:List Nat},repL w ds us F->∀k,∃G,repL w (ds.take k) (us.take k) G/\∀b∈G,b∈F
 | [],us,F,h,k=>by obtain⟨rfl,rfl⟩:=h;exact⟨[],by simp[repL],by simp⟩
 | d::ds,us,F,h,k=>by
  cases k with
  | zero=>exact⟨[],by simp[repL],by simp⟩
  | succ k=>
   obtain⟨u,us',F1,F2,rfl,rfl,h1,h2⟩:=h
   obtain⟨G,h3,h4⟩:=Qbx h2 k
   refine⟨F1++G,⟨u,us'.take k,F1,G,by simp,rfl,h1,h3⟩,fun b hb=>?_⟩
   rcases Xag.1 hb with hb|hb
   ·exact Xat _ hb
   ·exact Xav _ (h4 b hb)
theorem Qaa{G:List Nat}(h:∀b∈G,b∈([]:List Nat)):G=[]:=by
 cases G with
 | nil=>rfl
 | cons a l=>have:=h a Xaa;cases this
theorem Qj9{w:World}{ds el:List D}{us vs:List Value}(h:repL w el us [])(h':repL w ds vs [])(k:Nat):repL w (splice el k ds) (splice us k vs) []:=by
 have e:=Qy h'
 unfold splice
 obtain⟨G1,c,a⟩:=Qbx h k
 obtain⟨G2,d,b⟩:=Zc h (k+ds.length)
 have:=Qaa a;subst this
 have:=Qaa b;subst this
 rw[e]
 have:=JS (JS c h') d
 simpa using this
theorem QmI{w:World}{z:Nat}:∀{es:List (List D)} {us:List Value} {F:List Nat} {i off:Nat} {el ds:List D} {vs:List Value},repE w es us F->(∀e∈es,e.length=z)->es[i]?=some el->el.all D.flat=true->repL w ds vs []->off+ds.length<=z->
  repE w (es.set i (splice el off ds)) (splice us (i*z+off) vs) F
 | [],us,F,i,off,el,ds,vs,_,_,hi,_,_,_=>by simp at hi
 | e::es,us,F,i,off,el,ds,vs,h,hz,hi,hfl,h',hle=>by
  obtain⟨u1,u2,F1,F2,rfl,rfl,k1,k2⟩:=h
  have hl1:u1.length=z:=by rw[Qy k1];exact hz e Xaa
  have hvl:=Qy h'
  cases i with
  | zero=>
   simp only[List.getElem?_cons_zero,Xak]at hi
   subst hi
   have hF1:=JF k1 hfl
   subst hF1
   rw[Xbx,Xbo,XaZ,QaH (by omega)]
   exact⟨_,_,[],F2,rfl,rfl,Qj9 k1 h' off,k2⟩
  | succ i=>
   simp only[List.getElem?_cons_succ]at hi
   have e1:(i+1)*z+off=u1.length+(i*z+off):=by rw[hl1,XaU];omega
   rw[Xb2,e1,Z6]
   exact⟨_,_,F1,F2,rfl,rfl,k1,QmI k2 (fun x hx=>hz x (Xad _ hx)) hi hfl h' hle⟩
theorem NstL.setA{P:Program}{w:World}{z i off:Nat}{es:List (List D)}{us vs:List Value}{el ds:List D}(h:NstL P w es.flatten us)(hul:us.length=es.length*z)(hz:∀e∈es,e.length=z)(hel:es[i]?=some el)(hfe:el.all D.flat=true)(hfd:NstL P w ds vs)(hvl:vs.length=ds.length)(hle:off+ds.length<=z) :
  NstL P w (es.set i (splice el off ds)).flatten (splice us (i*z+off) vs):=fun j q u hj hu hne=>by
 have f:=(List.getElem?_eq_some_iff.1 hel).1
 have d:el.length=z:=hz el (List.mem_of_getElem? hel)
 have k:∀e∈es.set i (splice el off ds),e.length=z:=fun e he=>by
  rcases Xbr he with he|rfl
  ·exact hz e he
  ·rw[Q0 (by omega)];exact d
 have p:i*z+z<=es.length*z:=by
  have:(i+1)*z<=es.length*z:=XaI _ (by omega)
  rwa [XaU,XbV]at this
 by_cases b:z=0
 ·have h0:us.length=0:=by rw[hul,b,Nat.mul_zero]
  have o:(splice us (i*z+off) vs).length=us.length:=Q0 (by omega)
  have:=(List.getElem?_eq_some_iff.1 hu).1
  omega
 have b:0<z:=by omega
 rw[Qfb b k]at hj
 rw[Qcm (by omega)]at hu
 by_cases a:j / z=i
 ·rw[a,List.getElem?_set_self f,Xbc,Qcm (by omega)]at hj
  have g:=Nat.div_add_mod j z
  rw[a,Xcn]at g
  by_cases c:off<=j % z/\j % z<off+ds.length
  ·rw[if_pos c]at hj
   rw[if_pos (by omega),show j-(i*z+off)=j % z-off by omega]at hu
   exact hfd _ q u hj hu hne
  ·rw[if_neg c]at hj
   have l:(D.sl q).flat=true:=XaD.1 hfe _ (List.mem_of_getElem? hj)
   exact absurd (by simpa [D.flat] using l) hne
 ·rw[List.getElem?_set_ne (fun e=>a e.symm),<-Qfb b hz]at hj
  refine h j q u hj ?_ hne
  rw[if_neg]at hu
  ·exact hu
  ·intro⟨o,l⟩
   apply a
   have m:i*z<=j:=by omega
   have n:j<(i+1)*z:=by rw[XaU,XbV];omega
   exact Nat.div_eq_of_lt_le m n
theorem NstL.flat{P:Program}{w:World}{ds:List D}{us:List Value}(h:ds.all D.flat=true):NstL P w ds us:=fun j es u hj _ hne=>by
 have a:=XaD.1 h _ (List.mem_of_getElem? hj)
 exact absurd (by simpa [D.flat] using a) hne
theorem NstL.set{P:Program}{w:World}{z i off:Nat}{es:List (List D)}{us vs:List Value}{el ds:List D}(h:NstL P w es.flatten us)(hul:us.length=es.length*z)(hz:∀e∈es,e.length=z)(hel:es[i]?=some el)(hfe:el.all D.flat=true)(hfd:ds.all D.flat=true)(hvl:vs.length=ds.length)(hle:off+ds.length<=z) :
  NstL P w (es.set i (splice el off ds)).flatten (splice us (i*z+off) vs):=h.setA hul hz hel hfe (.flat hfd) hvl hle
theorem Qw7{x:Operand}{p i off:Nat}{e:TypeId}{es:List (List D)}{dp:Bool}{el:List D}(hx:σ.ev x=.pr p i off)(hp:Ql σ.ob p=some (.row e es dp))(hel:es[i]?=some el)(hfl:(bif dp then el.all D.flat else true)=true):σ.at (σ.ev x)=some ((el.drop off).map AV.d):=by
 rw[hx]
 simp only[AS.at,hp,hel,hfl,cond_true]
end

mutual
def AV.frz(p:Nat)(es:List (List D)):AV->AV
 | .row o=>bif Nat.beq o p then .d (.sl es)else .row o
 | .pr o i off=>bif Nat.beq o p then .any else .pr o i off
 | .ptr o off=>bif Nat.beq o p then .any else .ptr o off
 | .agg xs=>.agg (frzL p es xs)
 | .tup xs=>.tup (frzL p es xs)
 | .clo g xs=>.clo g (frzL p es xs)
 | .sub o i j=>bif Nat.beq o p then .d (.sl ((es.take j).drop i))else .sub o i j
 | x=>x
def frzL(p:Nat)(es:List (List D)):List AV->List AV
 | []=>[]
 | x::xs=>x.frz p es::frzL p es xs
end
def AO.frz(p:Nat)(es:List (List D)):AO->AO
 | .box e cs=>.box e (frzL p es cs)
 | x=>x
def AS.frz(σ:AS)(p:Nat)(es:List (List D)):AS:=⟨σ.nt,σ.sl.map fun y=>(y.1,y.2.frz p es),(YT p σ.ob).map fun y=>(y.1,y.2.frz p es)⟩
theorem AO.frz_isRow(p:Nat)(es:List (List D))(x:AO):(x.frz p es).isRow=x.isRow:=by cases x <;> rfl
theorem AO.frz_lens(p:Nat)(es:List (List D))(x:AO):(x.frz p es).lens=x.lens:=by cases x <;> rfl
theorem AO.frz_deep(p:Nat)(es:List (List D))(x:AO):(x.frz p es).deep=x.deep:=by cases x <;> rfl
theorem QcP{a b:Nat}(h:a≠b):Nat.beq a b=false:=by
 cases hb:Nat.beq a b with
 | false=>rfl
 | true=>exact absurd ((Qg a b).1 hb) h
section
variable {w:World} {en en':List Ent} {I I':Nat->Prop} {p:Nat} {es:List (List D)}
mutual
theorem AV.shows_frz(hI:∀b,I b->I' b)(hp:∀x∈en,x.nm=p->∃F,(D.sl es).rep w x.val F/\∀b∈F,I' b)(hpl:∀x∈en,x.nm=p->x.ao.lens=es.map List.length)(he:∀x∈en,x.nm≠p->∃y∈en',Like x y):∀(x:AV) (u:Value),x.shows w en I u->(x.frz p es).shows w en' I' u
 | .any,_,_=>trivial
 | .d x,u,h=>by
  obtain⟨F,h1,h2⟩:=h
  exact⟨F,h1,fun b hb=>hI b (h2 b hb)⟩
 | .nil,_,h=>h
 | .row o,u,h=>by
  obtain⟨x,hx,rfl,h1,rfl⟩:=h
  simp only[AV.frz]
  by_cases ho:x.nm=p
  ·rw[(Qg _ _).2 ho]
   exact hp x hx ho
  ·rw[QcP ho]
   obtain⟨y,hy,l1,l2,l3,l4⟩:=he x hx ho
   exact⟨y,hy,l1,by rw[l3];exact h1,l2.symm⟩
 | .ptr o off,u,h=>by
  obtain⟨x,hx,rfl,h1,g,h2,h3⟩:=h
  simp only[AV.frz]
  by_cases ho:x.nm=p
  ·rw[(Qg _ _).2 ho]
   trivial
  ·rw[QcP ho]
   obtain⟨y,hy,l1,l2,l3,l4⟩:=he x hx ho
   exact⟨y,hy,l1,by rw[l3];exact h1,g,by rw[l2];exact h2,h3⟩
 | .pr o i off,u,h=>by
  obtain⟨x,hx,rfl,h1,g,z,h2,h3,h4,h5⟩:=h
  simp only[AV.frz]
  by_cases ho:x.nm=p
  ·rw[(Qg _ _).2 ho]
   trivial
  ·rw[QcP ho]
   obtain⟨y,hy,l1,l2,l3,l4⟩:=he x hx ho
   exact⟨y,hy,l1,by rw[l3];exact h1,g,z,by rw[l2];exact h2,by rw[l4];exact h3,by rw[l4];exact h4,h5⟩
 | .pd e off,u,h=>by
  obtain⟨b,o,us,F,h1,h2,h3,h4,h5⟩:=h
  exact⟨b,o,us,F,h1,h2,h3,hI b h4,fun c hc=>hI c (h5 c hc)⟩
 | .agg xs,u,h=>by
  obtain⟨us,h1,h2⟩:=h
  exact⟨us,h1,Zz hI hp hpl he xs us h2⟩
 | .tup xs,u,h=>by
  obtain⟨us,h1,h2⟩:=h
  exact⟨us,h1,Zz hI hp hpl he xs us h2⟩
 | .clo g xs,u,h=>by
  obtain⟨us,h1,h2⟩:=h
  exact⟨us,h1,Zz hI hp hpl he xs us h2⟩
 | .sub o i j,u,h=>by
  obtain⟨x,hx,rfl,h1,h2,A,n,c,z,h3,h4,rfl⟩:=h
  simp only[AV.frz]
  by_cases ho:x.nm=p
  ·rw[(Qg _ _).2 ho]
   obtain⟨F,f1,f2⟩:=hp x hx ho
   have hes:=hpl x hx ho
   rw[h3]at f1
   obtain⟨F',f3,f4⟩:=QqB (z:=z) (i:=i) (j:=j) f1 (fun e he=>h4 e.length (by rw[hes];exact Xaf.2 ⟨e,he,rfl⟩)) h2.1 (by rw[hes,Xar]at h2;exact h2.2)
   exact⟨F',f3,fun b hb=>f2 b (f4 b hb)⟩
  ·rw[QcP ho]
   obtain⟨y,hy,l1,l2,l3,l4⟩:=he x hx ho
   exact⟨y,hy,l1,by rw[l3];exact h1,by rw[l4];exact h2,A,n,c,z,by rw[l2];exact h3,by rw[l4];exact h4,rfl⟩
theorem Zz(hI:∀b,I b->I' b)(hp:∀x∈en,x.nm=p->∃F,(D.sl es).rep w x.val F/\∀b∈F,I' b)(hpl:∀x∈en,x.nm=p->x.ao.lens=es.map List.length)(he:∀x∈en,x.nm≠p->∃y∈en',Like x y):∀(xs:List AV) (us:List Value),Qn w en I xs us->Qn w en' I' (frzL p es xs) us
 | [],_,h=>h
 | x::xs,us,h=>by
  obtain⟨u,us',h1,h2,h3⟩:=h
  exact⟨u,us',h1,AV.shows_frz hI hp hpl he x u h2,Zz hI hp hpl he xs us' h3⟩
end
end
theorem QmG(p:Nat)(es:List (List D)):∀(sl:List (Nat×AV)) (t:Nat),look (sl.map fun y=>(y.1,y.2.frz p es)) t=(look sl t).frz p es
 | [],_=>rfl
 | (k,x)::l,t=>by
  rw[Xas,QQ,QQ,QmG p es l t]
  split <;> rfl
theorem J2.frz{X:Cx}{σ:AS}{a:Act}{w:World}{en:List Ent}(h:J2 X σ a w en){p:Nat}{e:TypeId}{es:List (List D)}{dp:Bool}(hp:Ql σ.ob p=some (.row e es dp)) :
  J2 X (σ.frz p es) a w ((en.filter fun y=>y.nm != p).map fun y=>{ y with ao:=y.ao.frz p es }):=by
 have m:=h.mem
 let g:Ent->Ent:=fun y=>{ y with ao:=y.ao.frz p es }
 have c:∀{y:Ent},y∈(en.filter fun y=>y.nm != p).map g->∃z∈en,z.nm≠p/\y=g z:=by
  intro y i
  simp only[Xaf,XaB,bne_iff_ne]at i
  obtain⟨z,⟨f,v⟩,rfl⟩:=i
  exact⟨z,f,v,rfl⟩
 obtain⟨y0,ac,r,k,F0,ag,ah⟩:=QaR h hp
 have j:∀(z:Ent) (b:Nat),(g z).hd b↔z.hd b:=fun z b=>by
  unfold Ent.hd
  rw[show(g z).ao.deep=z.ao.deep from AO.frz_deep p es z.ao]
  try exact Iff.rfl
 have hI:∀b,Imm X.w0 X.Z X.O en w b->Imm X.w0 X.Z X.O ((en.filter fun y=>y.nm != p).map g) w b:=fun b hb=>⟨hb.1,hb.2.1,fun y i=>by
  obtain⟨z,l,_,rfl⟩:=c i
  exact fun h=>hb.2.2 z l ((j z b).1 h)⟩
 have ab:∀x∈en,x.nm=p->∃F,(D.sl es).rep w x.val F/\∀b∈F,Imm X.w0 X.Z X.O ((en.filter fun y=>y.nm != p).map g) w b:=fun x hx hn=>by
  have:=m.ent_unique hx ac (hn.trans r.symm)
  subst this
  refine⟨F0,ag,fun b hb=>?_⟩
  rcases ah b hb with f|f
  ·have d:=m.ok x hx
   unfold EntOk at d
   rw[k]at d
   obtain⟨_,_,_,_,_,_,_,k5,_,k7⟩:=d
   cases dp with
   | false=>exact hI b (k5 rfl b f)
   | true=>
    refine⟨.inr ((k7 rfl).2.1 b f).1,((k7 rfl).2.1 b f).2.1,fun y i=>?_⟩
    obtain⟨z,l,n,rfl⟩:=c i
    exact fun hq=>m.hd_ne hx l (fun e=>n (e.symm.trans hn)) (.inr ⟨by rw[k];rfl,f⟩) ((j z b).1 hq)
  ·obtain⟨l1,l2⟩:=(m.ok x hx).lt f
   refine⟨.inr l2,l1,fun y i=>?_⟩
   obtain⟨z,l,n,rfl⟩:=c i
   exact fun hq=>m.hd_ne hx l (fun e=>n (e.symm.trans hn)) (.inl f) ((j z b).1 hq)
 have aa:∀x∈en,x.nm=p->x.ao.lens=es.map List.length:=fun x hx hn=>by
  have:=m.ent_unique hx ac (hn.trans r.symm)
  subst this
  rw[k];rfl
 have hl:∀x∈en,x.nm≠p->∃y∈(en.filter fun y=>y.nm != p).map g,Like x y:=fun x hx hn=>
  ⟨g x,by simp only[Xaf,XaB,bne_iff_ne];exact⟨x,⟨hx,hn⟩,rfl⟩,rfl,rfl,AO.frz_isRow p es x.ao,AO.frz_lens p es x.ao⟩
 refine⟨⟨m.os,m.tape,m.output,m.size,m.old,?_,?_,?_,?_,fun y i=>by
  obtain⟨z,l,_,rfl⟩:=c i
  exact m.fix z l⟩,?_,h.defers,h.size,fun t=>?_⟩
 ·have:((en.filter fun y=>y.nm != p).map g).map Ent.nm=(en.filter fun y=>y.nm != p).map Ent.nm:=by simp only[XaR];rfl
  rw[this]
  exact Xbw (XbI _ XaC) m.names
 ·exact XaX _ (fun x y hxy b f v=>hxy b ((j x b).1 f) ((j y b).1 v)) (Xa1 XaC m.blks)
 ·intro y i
  obtain⟨z,l,n,rfl⟩:=c i
  have d:=m.ok z l
  unfold EntOk at d
  split at d
  ·rename_i e' av ar u
   obtain⟨s,us,k0,k1,k2,k3,k4,k5,k6,k7⟩:=d
   unfold EntOk
   simp only[g,u,AO.frz]
   exact⟨s,us,k0,k1,k2,k3,k4,fun hd b hb=>hI b (k5 hd b hb),k6,k7⟩
  ·rename_i e' cs u
   obtain⟨k0,q,af,k1,k2,k3,k4⟩:=d
   unfold EntOk
   simp only[g,u,AO.frz]
   exact⟨k0,q,af,k1,k2,k3,Zz hI ab aa hl cs _ k4⟩
 ·refine XaX _ (fun x y hxy f v=>?_) (Xa1 XaC m.apart)
  exact hxy (by rw[<-AO.frz_deep p es];exact f) (by rw[<-AO.frz_deep p es];exact v)
 ·have e1:((en.filter fun y=>y.nm != p).map g).map Ent.key=((en.map Ent.key).filter fun y=>y.1 != p).map fun y=>(y.1,y.2.frz p es):=by
   simp only[XaR,XbQ]
   rfl
  show(((en.filter fun y=>y.nm != p).map g).map Ent.key).Perm ((YT p σ.ob).map fun y=>(y.1,y.2.frz p es))
  rw[e1]
  exact(h.ob.filter _).map _
 ·simp only[AS.frz,QmG]
  exact AV.shows_frz hI ab aa hl _ _ (h.slots t)
section
variable {X:Cx} {σ:AS} {o:Oper} {K:AS->Prop} {Q:Exit->AS->Prop} {t:Nat}
theorem Qp(p:Nat){e:TypeId}{es:List (List D)}{dp:Bool}{c:Code}(hp:Ql σ.ob p=some (.row e es dp))(h:AWp X c Q (σ.frz p es)):AWp X c Q σ:=fun a w ⟨_,hr⟩=>h a w ⟨_,hr.frz hp⟩

def QC(l:List UInt8):List (List D):=l.map fun b=>[.n .u8 (b.toNat:Int)]
theorem X2(w:World):∀(l:List UInt8),repE w (QC l) (l.map fun(b:UInt8)=>Value.int .u8 (b.toNat:Int)) []
 | []=>⟨rfl,rfl⟩
 | b::l=>⟨[.int .u8 (b.toNat:Int)],l.map fun(b:UInt8)=>Value.int .u8 (b.toNat:Int),[],[],rfl,rfl,⟨.int .u8 (b.toNat:Int),[],[],[],rfl,rfl,⟨rfl,rfl⟩,rfl,rfl⟩,X2 w l⟩
theorem Xy{w:World}:∀{l:List UInt8} {us:List Value} {F:List Nat},repE w (QC l) us F->us=l.map fun b=>.int .u8 (b.toNat:Int)
 | [],us,F,h=>h.1
 | b::l,us,F,h=>by
  obtain⟨u1,u2,F1,F2,rfl,rfl,k1,k2⟩:=h
  obtain⟨u,us',G1,G2,rfl,rfl,⟨rfl,rfl⟩,k3⟩:=k1
  rw[k3.1,Xy k2]
  rfl
def QwY:TypeDesc->Bool
 | .int .u8=>true
 | _=>false
def QrY(X:Cx)(T:TypeId):Bool:=match X.tt T with
 | some ti=>QwY ti.desc
 | none=>false
theorem QdR{T:TypeId}(h:QrY X T=true):X.P.underlying T=some (.int .u8):=by
 unfold QrY at h
 split at h
 ·rename_i b _
  unfold QwY at h
  split at h
  ·rename_i a
   exact a▸b.und
  ·cases h
 ·cases h
theorem Qh0{v:Int}(h:0<=v/\v<=255):[[D.n .u8 v]]=QC [UInt8.ofNat v.toNat]:=by
 have:((UInt8.ofNat v.toNat).toNat:Int)=v:=by simp;omega
 rw[QC,Xas,Xbj,this]
def intD:TypeDesc->Option IntKind
 | .int k=>some k
 | _=>none
def intT(X:Cx)(T:TypeId):Option IntKind:=match X.tt T with
 | some ti=>intD ti.desc
 | none=>none
def hasT(X:Cx)(T:TypeId):Bool:=match X.tt T with
 | some _=>true
 | none=>false
theorem Qgl{src dst:TypeId}{k k':IntKind}{x:Operand}{p:Int}(ho:o.op=.convert src dst x)(hd:o.dst=some t)(hs:hasT X src=true)(hT:intT X dst=some k')(hx:σ.ev x=.d (.n k p))(ht:Nat.blt t σ.nt=true)(hK:K (σ.put t (.d (.n k' (k'.wrap p))))):QOk X o σ K:=by
 unfold hasT at hs
 split at hs
 ·rename_i ts _
  unfold intT at hT
  split at hT
  ·rename_i td _
   unfold intD at hT
   split at hT
   ·rename_i b a
    injection hT with hT
    subst hT
    exact Qwb (td:=td) (ts:=ts) ho hd hx a rfl ht hK
   ·cases hT
  ·cases hT
 ·cases hs
end
end
section

section
variable {X:Cx} {σ:AS} {o:Oper} {K:AS->Prop} {t:Nat}
theorem Qrr{P:Program}{w:World}{T:TypeId}{d:TypeDesc}(hu:P.underlying T=some d)(ha:J5 d=false){cs:Array Value}{off:Nat}{v:Value}(hv:cs[off]?=some v):(part T cs off).run P w=.ok v w:=by
 have a:(isAgg T).run P w=.ok false w:=by
  unfold isAgg
  rw[Sem.run_bind,run_underlying hu w]
  cases d <;> simp_all[J5,Sem.run_pure]
 simp only[part,Sem.run_bind,a,Result.andThen_ok,XaT,if_false,hv,Sem.run_pure]
theorem Qp0{P:Program}{w:World}{T:TypeId}(ti:TI P T)(ha:J5 ti.desc=true){cs:Array Value}{off:Nat}:(part T cs off).run P w=.ok (.agg ((cs.toList.drop off).take ti.size).toArray) w:=by
 have a:(isAgg T).run P w=.ok true w:=by
  unfold isAgg
  rw[Sem.run_bind,run_underlying ti.und w]
  cases d:ti.desc <;> simp_all[J5,Sem.run_pure]
 obtain⟨i,b,_,c,_⟩:=ti.parts
 have e:cs.extract off (off+ti.size)=((cs.toList.drop off).take ti.size).toArray:=by
  apply Array.ext'
  simp
 simp only[part,Sem.run_bind,a,Result.andThen_ok,if_true,sizeOf,typeInfo,run_program,b,c,Sem.run_pure,e]
def Qhk(X:Cx):List Field->Option (List (Nat×Nat))
 | []=>some []
 | f::fs=>match X.tt f.type with
  | some tf=>match Qhk X fs with
   | some l=>some ((f.offset,tf.size)::l)
   | none=>none
  | none=>none
theorem Qfx:∀{fs:List Field} {l:List (Nat×Nat)},Qhk X fs=some l->fs.mapM (fun f=>(X.P.info? f.type).map fun i=>(f.offset,i.size))=some l
 | [],l,h=>by injection h with h;subst h;rfl
 | f::fs,l,h=>by
  simp only[Qhk]at h
  split at h
  ·rename_i tf _
   split at h
   ·rename_i l' hl
    injection h with h;subst h
    obtain⟨i,h1,_,h2,_⟩:=tf.parts
    simp only[List.mapM_cons,h1,XaW,h2,Qfx hl]
    rfl
   ·cases h
  ·cases h
def Qta(places:List (Nat×Nat)):List AV->List (Nat×AV)->Option (List AV)
 | cs,[]=>some cs
 | cs,(i,v)::rest=>match places[i]? with
  | some (off,size)=>match v.cellsV with
   | some xs=>bif Nat.beq xs.length size then(bif Nat.ble (off+size) cs.length then V2 (splice cs off xs) (fun cs'=>Qta places cs' rest)else none)else none
   | none=>none
  | none=>none
theorem Qmd{w:World}{en:List Ent}{P:Program}{w0:World}{f:Nat->Bool}{Z:ZV f}{O:Nat->Prop}(hm:Mem P w0 Z O en w){places:List (Nat×Nat)}:∀{parts:List (Nat×AV)} {vs:List (Nat×Value)} {cs cs':List AV} {cells:Array Value},Qta places cs parts=some cs'->
  Qn w en (Imm w0 Z O en w) cs cells.toList->vs.map Prod.fst=parts.map Prod.fst->Qn w en (Imm w0 Z O en w) (parts.map Prod.snd) (vs.map Prod.snd)->
  ∃r,Instr.fill (places.toArray[·]?) cells vs=some r/\Qn w en (Imm w0 Z O en w) cs' r.toList
 | [],vs,cs,cs',cells,hf,hc,hv,_=>by
  injection hf with hf
  subst hf
  obtain rfl:vs=[]:=by simpa using hv
  exact⟨cells,rfl,hc⟩
 | (i,x)::parts,vs,cs,cs',cells,hf,hc,hv,hs=>by
  simp only[Qta]at hf
  match vs,hv,hs with
  | (i',v)::vs,hv,hs=>
   simp only[Xas,XbC]at hv
   obtain⟨rfl,hv2⟩:=hv
   obtain⟨u,us',e0,h2,h3⟩:=hs
   simp only[Xas,XbC]at e0
   obtain⟨rfl,rfl⟩:=e0
   split at hf
   ·rename_i off size hpl
    split at hf
    ·rename_i xs hx
     cases b1:Nat.beq xs.length size with
     | false=>rw[b1]at hf;cases hf
     | true=>
      cases b2:Nat.ble (off+size) cs.length with
      | false=>rw[b1,b2]at hf;cases hf
      | true=>
       rw[b1,b2]at hf
       simp only[cond_true,YJ]at hf
       obtain⟨h4,h5⟩:=YH hm hx h2
       have hsz:v.cells.size=size:=by rw[<-Xax,QD h4];exact(Qg _ _).1 b1
       have hcl:cells.size=cs.length:=by rw[<-Xax];exact QD hc
       have hfit:off+size<=cells.size:=by rw[hcl];exact XaL b2
       have hfold:(v.cells.zipIdx.foldl (fun cs (x:Value×Nat)=>cs.setIfInBounds (off+x.2) x.1) cells).toList=splice cells.toList off v.cells.toList:=by
        rw[<-Array.foldl_toList,Array.toList_zipIdx]
        have h0:=QcJ off v.cells.toList cells 0 (by simp;omega)
        rw[XbK]at h0
        exact h0
       have g1:=ZP hc h4 off
       rw[<-hfold]at g1
       obtain⟨r,r1,r2⟩:=Qmd hm hf g1 hv2 h3
       refine⟨r,?_,r2⟩
       unfold Instr.fill
       have hp':places.toArray[i']?=some (off,size):=by simpa using hpl
       simp only[hp',hsz]
       rw[if_neg (by simp;omega)]
       exact r1
    ·cases hf
   ·cases hf
def Vi:TypeDesc->Option (List Field)
 | .struct fs=>some fs.toList
 | _=>none
end

def eqD(d:TypeDesc)(x y:AV):Option Bool:=
 match d,x,y with
 | .int _,.d (.n k p),.d (.n k' q)=>match decEq k k' with
  | .isTrue _=>some (p==q)
  | .isFalse _=>none
 | .bool,.d (.b p),.d (.b q)=>some (p==q)
 | .string,.d (.s p),.d (.s q)=>some (p==q)
 | _,_,_=>none
mutual
def eqT(X:Cx)(ns:List Nat):Nat->TypeId->List AV->List AV->Option Bool
 | 0,_,_,_=>none
 | f+1,T,xs,ys=>match X.tt T with
  | some ti=>match Vi ti.desc with
   | some fs=>bif ns.any (fun n=>Nat.beq n T)then eqF X ns f fs xs ys else none
   | none=>match xs,ys with
    | x::_,y::_=>eqD ti.desc x y
    | _,_=>none
  | none=>none
def eqF(X:Cx)(ns:List Nat):Nat->List Field->List AV->List AV->Option Bool
 | _,[],_,_=>some true
 | 0,_,_,_=>none
 | f + 1, fd :: fs, xs, ys => bif fd.name != "_" then (match X.tt fd.type with
  | some tf=>match eqT X ns f fd.type ((xs.drop fd.offset).take tf.size) ((ys.drop fd.offset).take tf.size) with
   | some a=>match eqF X ns f fs xs ys with
    | some b=>some (a&&b)
    | none=>none
   | none=>none
  | none=>none)else none
end
theorem Qts{P:Program}{ns:List Nat}(h:(ns.all fun T=>!P.stoodInHeld T)=true){T:TypeId}(hT:ns.any (fun n=>Nat.beq n T)=true):P.stoodInHeld T=false:=by
 rw[XaV]at hT
 obtain⟨n,a,e⟩:=hT
 rw[XaD]at h
 have:=h n a
 rw[(Qg _ _).1 e]at this
 simpa using this
theorem QuW{P:Program}{w wl:World}{en:List Ent}{I:Nat->Prop}{x y:AV}{u v:Value}{b:Bool}{T:TypeId}{d:TypeDesc}(hu:P.underlying T=some d)(h1:x.shows wl en I u)(h2:y.shows wl en I v)(hb:eqD d x y=some b)(n:Nat) :
  (Op.equalIn (n+1) T u v).run P w=.ok b w:=by
 unfold eqD at hb
 split at hb
 ·rename_i k p k' q
  split at hb
  ·rename_i c _
   subst c
   injection hb with hb
   subst hb
   obtain⟨F,⟨rfl,_⟩,_⟩:=h1
   obtain⟨G,⟨rfl,_⟩,_⟩:=h2
   simp[Op.equalIn,run_underlying hu]
  ·cases hb
 ·injection hb with hb
  subst hb
  obtain⟨F,⟨rfl,_⟩,_⟩:=h1
  obtain⟨G,⟨rfl,_⟩,_⟩:=h2
  simp[Op.equalIn,run_underlying hu]
 ·rename_i p q
  injection hb with hb
  subst hb
  obtain⟨F,⟨rfl,_⟩,_⟩:=h1
  obtain⟨G,⟨rfl,_⟩,_⟩:=h2
  have e:((⟨p.toArray⟩:ByteArray)==⟨q.toArray⟩)=(p==q):=by
   show((⟨p⟩:Array UInt8)==⟨q⟩)=(p==q)
   simp
  simp[Op.equalIn,run_underlying hu,e]
 ·cases hb
def Qaz(d:TypeDesc)(us:List Value):Value:=match Vi d with
 | some _=>.agg us.toArray
 | none=>us.getD 0 undef
theorem QcD{d:TypeDesc}{fs:List Field}(h:Vi d=some fs):d=.struct fs.toArray:=by
 unfold Vi at h
 split at h
 ·injection h with h;subst h;simp
 ·cases h
theorem QcH{P:Program}{w wl:World}{en:List Ent}{I:Nat->Prop}{T:TypeId}(ti:TI P T){us:List Value}{xs:List AV}{off:Nat}(hs:Qn wl en I xs us)(hne:Vi ti.desc=none->J5 ti.desc=false/\(xs.drop off).take ti.size≠[]):(part T us.toArray off).run P w=.ok (Qaz ti.desc ((us.drop off).take ti.size)) w:=by
 unfold Qaz
 cases a:Vi ti.desc with
 | some fs=>
  have:=QcD a
  rw[Qp0 ti (by rw[this];rfl)]
 | none=>
  obtain⟨d,f⟩:=hne a
  have e:=QD (We (WN hs off) ti.size)
  have b:0<((us.drop off).take ti.size).length:=by rw[e];exact Xbd.2 f
  have c:us[off]?=some (((us.drop off).take ti.size).getD 0 undef):=by
   simp only[Xah,XaP]at b
   rw[List.getD_eq_getElem?_getD,List.getElem?_take,if_pos (by omega),List.getElem?_drop,XbK]
   rw[List.getElem?_eq_getElem (by omega)]
   rfl
  exact Qrr ti.und d (by simpa using c)
section
variable {X:Cx} {w wl:World} {en:List Ent} {I:Nat->Prop}
theorem Qvy{d:TypeDesc}{x y:AV}{b:Bool}(h:eqD d x y=some b):J5 d=false:=by
 unfold eqD at h
 split at h <;> first|rfl|cases h
mutual
theorem QpX{ns:List Nat}(hc:(ns.all fun T=>!X.P.stoodInHeld T)=true):∀(f d:Nat) {T:TypeId} {ti:TI X.P T} {xs ys:List AV} {us vs:List Value} {b:Bool},X.tt T=some ti->eqT X ns f T xs ys=some b->Qn wl en I xs us->Qn wl en I ys vs->
  (Op.equalIn (f+d) T (Qaz ti.desc us) (Qaz ti.desc vs)).run X.P w=.ok b w/\(Vi ti.desc=none->J5 ti.desc=false/\xs≠[]/\ys≠[])
 | 0,_,_,_,_,_,_,_,_,_,h,_,_=>by cases h
 | f+1,d,T,ti,xs,ys,us,vs,b,ht,h,h1,h2=>by
  simp only[eqT,ht]at h
  unfold Qaz
  cases hd:Vi ti.desc with
  | some fs=>
   simp only[hd]at h
   cases hany:ns.any (fun n=>Nat.beq n T) with
   | false=>rw[hany]at h;cases h
   | true=>
   rw[hany,cond_true]at h
   refine⟨?_,fun e=>by cases e⟩
   have hu:=ti.und
   have hde:=QcD hd
   rw[hde]at hu
   have hfo:X.P.fieldsOf T=fs.toArray:=by simp[Program.fieldsOf,hu]
   rw[show f+1+d=(f+d)+1 by omega,run_equalIn_struct w (f+d) T us.toArray vs.toArray (by rw[hfo];exact hu) (Qts hc hany),hfo]
   exact Qus hc f d h h1 h2
  | none=>
   simp only[hd]at h
   split at h
   ·rename_i x xs' y ys'
    obtain⟨u,us',rfl,g1,g2⟩:=h1
    obtain⟨v,vs',rfl,g3,g4⟩:=h2
    refine⟨?_,fun _=>⟨Qvy h,by simp,by simp⟩⟩
    rw[show f+1+d=(f+d)+1 by omega]
    exact QuW ti.und g1 g3 h _
   ·cases h
theorem Qus{ns:List Nat}(hc:(ns.all fun T=>!X.P.stoodInHeld T)=true):∀(f d:Nat) {fs:List Field} {xs ys:List AV} {us vs:List Value} {b:Bool},eqF X ns f fs xs ys=some b->Qn wl en I xs us->Qn wl en I ys vs->
  (Op.eqFields (f+d) us.toArray vs.toArray fs).run X.P w=.ok b w
 | f,d,[],xs,ys,us,vs,b,h,_,_=>by
  have:some true=some b:=by cases f <;> exact h
  injection this with h
  subst h
  simp[Op.eqFields,Sem.run_pure]
 | 0,_,fd::fs,_,_,_,_,_,h,_,_=>by cases h
 | f+1,d,fd::fs,xs,ys,us,vs,b,h,h1,h2=>by
  simp only[eqF]at h
  cases hn : fd.name != "_" with
  | false=>rw[hn]at h;cases h
  | true=>
   rw[hn]at h
   simp only[cond_true]at h
   split at h
   ·rename_i tf htf
    split at h
    ·rename_i a ha
     split at h
     ·rename_i c hcc
      injection h with h
      subst h
      obtain⟨k1,k2⟩:=QpX hc f (d+1) htf ha (We (WN h1 fd.offset) tf.size) (We (WN h2 fd.offset) tf.size)
      have k3:=Qus hc f (d+1) hcc h1 h2
      rw[show f+(d+1)=f+1+d by omega]at k1 k3
      have p1:=QcH (w:=w) tf h1 (off:=fd.offset) (fun e=>⟨(k2 e).1,(k2 e).2.1⟩)
      have p2:=QcH (w:=w) tf h2 (off:=fd.offset) (fun e=>⟨(k2 e).1,(k2 e).2.2⟩)
      have hn' : fd.name ≠ "_" := by simpa using hn
      simp only[Op.eqFields,if_pos hn',Sem.run_bind,p1,p2,k1,Result.andThen_ok]
      cases a
      ·simp[Sem.run_pure]
      ·simpa using k3
     ·cases h
    ·cases h
   ·cases h
end
end
section
variable {X:Cx} {σ:AS} {o:Oper} {K:AS->Prop} {t:Nat}
end

theorem Qs7{e:List D}{z:Nat}(h:e.length=z):lenE [e] z:=fun x hx=>by rw[XaH.1 hx];exact h
theorem QmB{α:Type}{f:α->List D}{l:List α}{z:Nat}(h:∀a,(f a).length=z):lenE (l.map f) z:=fun x hx=>by
 obtain⟨a,_,rfl⟩:=Xaf.1 hx
 exact h a
theorem QV{α:Type}{f:α->List D}{l:List α}(h:∀a,(f a).all D.flat1=true):Wg (l.map f)=true:=by
 unfold Wg
 rw[XaD]
 intro x b
 obtain⟨a,_,rfl⟩:=Xaf.1 b
 exact h a
def strE(l:List (List UInt8)):List (List D):=l.map fun s=>[.s s]
def intE(l:List Int):List (List D):=l.map fun x=>[.n .i64 x]
theorem QcE(l r:List UInt8):QC l++QC r=QC (l++r):=by simp[QC]
theorem Qu(l:List UInt8):(QC l).length=l.length:=by simp[QC]
theorem YP(l:List (List UInt8)):(strE l).length=l.length:=by simp[strE]
theorem Qc(l:List Int):(intE l).length=l.length:=by simp[intE]
end
end Go.Proofs.YtkdniahincpmaaaGreat
namespace Go.Proofs.YtkdniahincpmaaaGreat
open Go Go.RowKit Go.ChangeShapes Go.WideShapes

mutual
def TyD(X:Cx):Nat->TypeId->List D->Prop
 | 0,_,_=>False
 | n+1,T,ds=>match X.tt T with
  | some ti=>match ti.desc with
   | .int k=>∃z,ds=[.n k z]/\(Lit.int k z).wf=true
   | .bool=>∃b,ds=[.b b]
   | .string=>∃l,ds=[.s l]/\l.length<=9223372036854775807
   | .slice e=>∃es,ds=[.sl es]/\es.length<=9223372036854775807/\∀q∈es,TyD X n e q
   | .struct fs=>TyF X n fs.toList ds
   | _=>False
  | none=>False
def TyF(X:Cx):Nat->List Field->List D->Prop
 | _,[],ds=>ds=[]
 | 0,_,_=>False
 | n+1,f::fs,ds=>∃d1 d2,ds=d1++d2/\TyD X n f.type d1/\TyF X n fs d2
end
mutual
def chkD(X:Cx):Nat->TypeId->Bool
 | 0,_=>false
 | n+1,T=>match X.tt T with
  | some ti=>match ti.desc with
   | .int _=>Nat.beq ti.size 1
   | .bool=>Nat.beq ti.size 1
   | .string=>Nat.beq ti.size 1
   | .slice e=>Nat.beq ti.size 1&&chkD X n e&&(match X.tt e with
    | some te=>Nat.blt 0 te.size
    | none=>false)
   | .struct fs=>chkF X n fs.toList 0 ti.size
   | _=>false
  | none=>false
def chkF(X:Cx):Nat->List Field->Nat->Nat->Bool
 | _,[],off,n=>Nat.beq off n
 | 0,_,_,_=>false
 | f+1,fd::fs,off,n=>Nat.beq fd.offset off&&chkD X f fd.type&&(match X.tt fd.type with
  | some tf=>chkF X f fs (off+tf.size) n
  | none=>false)
end
theorem TI.cells{P:Program}{T:TypeId}(ti:TI P T):P.cellsOf T=ti.size:=by
 obtain⟨i,a,_,b,_⟩:=ti.parts
 unfold Program.cellsOf
 rw[a]
 exact b
section
variable {H:Type} {enc:TypeId×Value->H} {X:Cx} {w:World}
theorem QnB{t e:TypeId}{m:Nat}{d:DataW H×List MemPlace}{fuel:Nat}{cs0:List Value}(ht:X.P.underlying t=some (.slice e))(hc:X.P.cellsOf e=m)(hm:0<m)(hf:DataW.trod enc X.P w 0 (fun _=>true) true fuel t cs0=some d) :
  ∃(A:Option Addr) (n cap:Nat) (xs:List Value),cs0=[.slice A n cap]/\cap<=maxLen/\Rd w m A n cap xs/\
   ∀i,i<n->∃(fuel:Nat) (y:DataW H×List MemPlace),DataW.trod enc X.P w 0 (fun _=>true) true fuel e ((xs.drop (i*m)).take m)=some y:=by
 rcases Go.Deep.open_slice ht hf with ⟨hcs,_⟩|⟨a,n0,cap,m',k,Dd,Pl,hcs,_,hl,hcm,hmm,_,hi⟩
 ·exact⟨none,0,0,[],hcs,Xae _,Rd.nil_ w m,fun i hi=>absurd hi (by omega)⟩
 ·have aj:n0<=m':=by rw[hmm];simp;exact hl
  have x:∀i,∃g:List Value,i<n0->w.cells? 0 (a.add (i*m)) m=some g/\DataW.trod enc X.P w 0 (fun _=>true) true k e g=some (Dd i,Pl i):=fun i=>by
   by_cases b:i<n0
   ·obtain⟨g,r,s⟩:=hi i (by omega)
    rw[hc]at r
    exact⟨g,fun _=>⟨r,s⟩⟩
   ·exact⟨[],fun hh=>absurd hh b⟩
  obtain⟨f,c⟩:=Classical.axiomOfChoice x
  have l:∀i,i<n0->(f i).length=m:=fun i b=>(World.cells?_some (c i b).1).2.1
  have p:∀k,k<=n0->((List.range k).flatMap f).length=k*m/\∀i,i<k->∀j,j<m->((List.range k).flatMap f)[i*m+j]?=(f i)[j]?:=by
   intro k
   induction k with
   | zero=>intro _;exact⟨by simp,fun i hi=>absurd hi (by omega)⟩
   | succ k ih=>
    intro hk
    obtain⟨v,i2⟩:=ih (by omega)
    rw[XbR,XbW]
    have z:(List.flatMap f [k])=f k:=by simp
    rw[z]
    refine⟨by rw[Xab,v,l k (by omega),XaU];omega,fun i hik j q=>?_⟩
    by_cases h:i<k
    ·have hb:i*m+j<k*m:=by
      have:(i+1)*m<=k*m:=XaI m h
      rw[XaU]at this;omega
     rw[List.getElem?_append_left (by rw[v];exact hb)]
     exact i2 i h j q
    ·have:i=k:=by omega
     subst this
     rw[List.getElem?_append_right (by rw[v];omega),v]
     congr 1
     omega
  obtain⟨f1,f2⟩:=p n0 (Xaj _)
  have ab:∀i,i<n0->∃(fuel:Nat) (y:DataW H×List MemPlace),DataW.trod enc X.P w 0 (fun _=>true) true fuel e ((((List.range n0).flatMap f).drop (i*m)).take m)=some y:=fun i b=>by
   have:(((List.range n0).flatMap f).drop (i*m)).take m=f i:=by
    apply List.ext_getElem?
    intro j
    by_cases q:j<m
    ·rw[List.getElem?_take,if_pos q,List.getElem?_drop,f2 i b j q]
    ·rw[List.getElem?_eq_none (by simp;omega),List.getElem?_eq_none (by rw[l i b];omega)]
   exact⟨k,(Dd i,Pl i),by rw[this];exact(c i b).2⟩
  refine⟨some a,n0,cap,(List.range n0).flatMap f,hcs,hcm,⟨f1,hl,⟨by unfold maxLen at hcm;omega,fun e=>by cases e⟩,fun hn=>?_⟩,ab⟩
  have h0:∃u,w.cell? a=some u:=by
   obtain⟨_,ai,o⟩:=World.cells?_some (c 0 hn).1
   have:=o 0 hm
   simp only[Xbo,Addr.add,if_true]at this
   exact⟨(f 0)[0]'(by omega),by rw[this,List.getElem?_eq_getElem]⟩
  obtain⟨u0,aa⟩:=h0
  have ha:=Qq2 aa
  refine⟨a.block,a.off,by rw[<-ha],fun j u hu=>?_⟩
  have q:j<n0*m:=by rw[<-f1];exact(List.getElem?_eq_some_iff.1 hu).1
  have r:j / m<n0:=(Nat.div_lt_iff_lt_mul hm).2 q
  have s:j % m<m:=Nat.mod_lt _ hm
  have h3:=f2 (j / m) r (j % m) s
  rw[XcI]at h3
  obtain⟨_,_,o⟩:=World.cells?_some (c (j / m) r).1
  have h4:=o (j % m) s
  rw[ha,Yl,Yl,XbH,XcI,<-h3,hu]at h4
  exact h4
theorem Qlo{m:Nat}{Ty:List D->Prop}:∀(n:Nat) (xs:List Value),xs.length=n*m->(∀i,i<n->∃ds F,repL w ds ((xs.drop (i*m)).take m) F/\(∀b∈F,b<w.heap.size)/\Ty ds/\ds.length=m)->
  ∃es F,repE w es xs F/\es.length=n/\(∀e∈es,e.length=m)/\(∀b∈F,b<w.heap.size)/\∀q∈es,Ty q
 | 0,xs,hl,_=>⟨[],[],⟨Xaz (by simpa using hl),rfl⟩,rfl,by simp,by simp,by simp⟩
 | n+1,xs,hl,h=>by
  rw[XaU,XbV]at hl
  obtain⟨ds,F,h1,h2,h3,h4⟩:=h 0 (by omega)
  rw[Xbo,XbO]at h1
  obtain⟨es,G,g1,g2,g3,g4,g5⟩:=Qlo (m:=m) n (xs.drop m) (by simp;omega) (fun i hi=>by
   obtain⟨ds,F,k1,k2,k3,k4⟩:=h (i+1) (by omega)
   refine⟨ds,F,?_,k2,k3,k4⟩
   rw[Xca,show m+i*m=(i+1)*m by rw[XaU];omega]
   exact k1)
  refine⟨ds::es,F++G,⟨xs.take m,xs.drop m,F,G,(List.take_append_drop m xs).symm,rfl,h1,g1⟩,by simp[g2],fun e he=>?_,fun b hb=>?_,fun q hq=>?_⟩
  ·rcases Xai.1 he with rfl|he
   ·exact h4
   ·exact g3 e he
  ·rcases Xag.1 hb with hb|hb
   ·exact h2 b hb
   ·exact g4 b hb
  ·rcases Xai.1 hq with rfl|hq
   ·exact h3
   ·exact g5 q hq
mutual
theorem QeO:∀(n:Nat) {T:TypeId} {ti:TI X.P T} {fuel:Nat} {cs:List Value} {x:DataW H×List MemPlace},X.tt T=some ti->chkD X n T=true->DataW.trod enc X.P w 0 (fun _=>true) true fuel T cs=some x->
  ∃ds F,repL w ds cs F/\(∀b∈F,b<w.heap.size)/\TyD X n T ds/\ds.length=ti.size
 | 0,_,_,_,_,_,_,h,_=>by cases h
 | n+1,T,ti,fuel,cs,x,ht,h,hx=>by
  have hu:=ti.und
  simp only[chkD,ht]at h
  simp only[TyD,ht]
  split at h
  ·rename_i k hde
   rw[hde]at hu
   obtain⟨z,rfl,_,hw⟩:=DataW.trod_int hu hx
   exact⟨[.n k z],[],⟨_,[],[],[],rfl,rfl,⟨rfl,rfl⟩,rfl,rfl⟩,by simp,⟨z,rfl,hw⟩,((Qg _ _).1 h).symm⟩
  ·rename_i hde
   rw[hde]at hu
   obtain⟨z,rfl,_⟩:=DataW.trod_bool hu hx
   exact⟨[.b z],[],⟨_,[],[],[],rfl,rfl,⟨rfl,rfl⟩,rfl,rfl⟩,by simp,⟨z,rfl⟩,((Qg _ _).1 h).symm⟩
  ·rename_i hde
   rw[hde]at hu
   obtain⟨z,rfl,_,hm⟩:=DataW.trod_string hu hx
   refine⟨[.s z.data.toList],[],⟨_,[],[],[],rfl,rfl,⟨by rw[Qes],rfl⟩,rfl,rfl⟩,by simp,⟨z.data.toList,rfl,?_⟩,((Qg _ _).1 h).symm⟩
   have:z.data.toList.length=z.size:=Xax
   unfold maxLen at hm
   omega
  ·rename_i e hde
   rw[hde]at hu
   simp only[Xac]at h
   obtain⟨⟨h1,h2⟩,h3⟩:=h
   split at h3
   ·rename_i te hte
    have hpos:=Jp h3
    obtain⟨A,m,cap,xs,rfl,hcm,hr,hi⟩:=QnB hu te.cells hpos hx
    obtain⟨es,F,g1,g2,g3,g4,g5⟩:=Qlo (w:=w) (m:=te.size) (Ty:=TyD X n e) m xs hr.1 (fun i him=>by
     obtain⟨f',y,hy⟩:=hi i him
     exact QeO n hte h2 hy)
    have hmm:m<=maxLen:=Xam hr.2.1 hcm
    by_cases h0:es=[]
    ·subst h0
     simp only[XaS]at g2
     subst g2
     have hx0:=g1.1
     refine⟨[.sl []],[],⟨_,[],[],[],rfl,rfl,⟨A,cap,te.size,[],[],rfl,Xae _,hcm,hr.2.2.1.2,by simp,⟨rfl,rfl⟩,.inl ⟨rfl,rfl⟩⟩,rfl,rfl⟩,by simp,⟨[],rfl,by simp,by simp⟩,((Qg _ _).1 h1).symm⟩
    ·have hm0:0<m:=by rw[<-g2];exact Xbd.2 h0
     obtain⟨b,o,rfl,hcell⟩:=hr.2.2.2 hm0
     have hxl:0<xs.length:=by rw[hr.1];exact Nat.mul_pos hm0 hpos
     have hlt:b<w.heap.size:=World.block_lt_of_cell? w _ (hcell 0 _ (List.getElem?_eq_getElem hxl))
     refine⟨[.sl es],b::F,⟨_,[],b::F,[],rfl,by simp,⟨_,cap,te.size,xs,F,by rw[g2],by rw[g2];exact hr.2.1,hcm,(fun e=>by cases e),g3,g1,.inr ⟨h0,b,o,rfl,hlt,rfl,hcell⟩⟩,rfl,rfl⟩,fun c hc=>?_,⟨es,rfl,by rw[g2];unfold maxLen at hmm;omega,g5⟩,((Qg _ _).1 h1).symm⟩
     rcases Xai.1 hc with rfl|hc
     ·exact hlt
     ·exact g4 c hc
   ·cases h3
  ·rename_i fs hde
   rw[hde]at hu
   obtain⟨xs,m,_,_,hl,hxl,hf⟩:=DataW.trod_struct hu hx
   rw[ti.cells]at hl
   obtain⟨ds,F,g1,g2,g3,g4⟩:=QeL n (fs:=fs.toList) (off:=0) (total:=ti.size) (cs:=cs) h (by omega) (fun i f hfi=>by
    have hfi':fs[i]?=some f:=by simpa using hfi
    have h5:=hf i f hfi'
    have:i<xs.length:=by rw[hxl];exact(Array.getElem?_eq_some_iff.1 hfi').1
    exact⟨m,_,h5.trans (List.getElem?_eq_getElem this)⟩)
   simp only[XbO]at g1
   exact⟨ds,F,g1,g2,g3,by simpa using g4⟩
  ·cases h
theorem QeL:∀(n:Nat) {fs:List Field} {off total:Nat} {cs:List Value},chkF X n fs off total=true->cs.length=total->(∀(i:Nat) (f:Field),fs[i]?=some f->∃(fuel:Nat) (y:DataW H×List MemPlace),DataW.trod enc X.P w 0 (fun _=>true) true fuel f.type ((cs.drop f.offset).take (X.P.cellsOf f.type))=some y)->
  ∃ds F,repL w ds (cs.drop off) F/\(∀b∈F,b<w.heap.size)/\TyF X n fs ds/\ds.length=total-off
 | n,[],off,total,cs,h,hl,_=>by
  have:Nat.beq off total=true:=by cases n <;> exact h
  have e:=(Qg _ _).1 this
  refine⟨[],[],⟨Xbb (by omega),rfl⟩,by simp,by cases n <;> rfl,by simp;omega⟩
 | 0,f::fs,_,_,_,h,_,_=>by cases h
 | n+1,f::fs,off,total,cs,h,hl,hf=>by
  simp only[chkF,Xac]at h
  obtain⟨⟨h1,h2⟩,h3⟩:=h
  have hoff:=(Qg _ _).1 h1
  split at h3
  ·rename_i tf htf
   obtain⟨fu,y,hy⟩:=hf 0 f rfl
   rw[hoff,tf.cells]at hy
   obtain⟨d1,F1,g1,g2,g3,g4⟩:=QeO n htf h2 hy
   obtain⟨d2,F2,k1,k2,k3,k4⟩:=QeL n h3 hl (fun i f' hi=>hf (i+1) f' (by simpa using hi))
   refine⟨d1++d2,F1++F2,?_,fun b hb=>(Xag.1 hb).elim (g2 b) (k2 b),⟨d1,d2,rfl,g3,k3⟩,?_⟩
   ·have:=JS g1 k1
    rwa [<-Xca,XaK]at this
   ·have hlt:=Qy g1
    rw[g4,Xah,XaP]at hlt
    rw[Xab,g4,k4]
    omega
  ·cases h3
end
theorem law_arg(n:Nat){H:Type}{X:Cx}{enc:TypeId×Value->H}{w:World}{T:TypeId}{ti:TI X.P T}{r:Reach}{b0:Nat}{v:Value}{d:DataW H}{p:List MemPlace}(ht:X.tt T=some ti)(hc:chkD X (n+1) T=true)(hok:Value.okWide X.P w r b0 T v)(h:DataW.Trod enc X.P w 0 (fun _=>true) true T v d p) :
  ∃ds F,repL w ds v.cells.toList F/\(∀b∈F,b<w.heap.size)/\TyD X (n+1) T ds/\ds.length=ti.size/\(J5 ti.desc=true->∃cs,v=.agg cs)/\(J5 ti.desc=false->v.cells=#[v]):=by
 obtain⟨g,o⟩:=h
 obtain⟨ds,F,i,j,k,m⟩:=QeO (w:=w) (n+1) ht hc o
 have f:=ti.und
 refine⟨ds,F,i,j,k,m,fun ha=>?_,fun ha=>?_⟩
 ·simp only[chkD,ht]at hc
  split at hc
  ·rename_i e
   rw[e]at ha
   cases ha
  ·rename_i e
   rw[e]at ha
   cases ha
  ·rename_i e
   rw[e]at ha
   cases ha
  ·rename_i e
   rw[e]at ha
   cases ha
  ·rename_i e
   rw[e]at f
   obtain⟨cs,rfl,_⟩:=okWide_struct f hok
   exact⟨cs,rfl⟩
  ·cases hc
 ·simp only[chkD,ht]at hc
  split at hc
  ·rename_i e
   rw[e]at f
   obtain⟨n,rfl⟩:=okWide_int f hok
   rfl
  ·rename_i e
   rw[e]at f
   obtain⟨n,rfl⟩:=okWide_bool f hok
   rfl
  ·rename_i e
   rw[e]at f
   obtain⟨n,rfl⟩:=okWide_string f hok
   rfl
  ·rename_i e
   rw[e]at f
   obtain⟨a,l,c,rfl⟩:=okWide_slice f hok
   rfl
  ·rename_i e
   rw[e]at ha
   cases ha
  ·cases hc
end
section
variable {P:Program} {W:World}
theorem Qv2{x:D}{v:Value}{F:List Nat}(h:repL W [x] v.cells.toList F)(hF:∀b∈F,b<W.heap.size)(hv:v.cells=#[v]):(AV.d x).shows W [] (fun b=>b<W.heap.size) v:=by
 obtain⟨u,c,F1,F2,e,rfl,a,h2⟩:=h
 rw[hv]at e
 simp only[XbC]at e
 obtain⟨rfl,_⟩:=e
 exact⟨F1,a,fun b hb=>hF b (Xat _ hb)⟩
theorem QvZ{ds:List D}{cs:Array Value}{F:List Nat}(h:repL W ds cs.toList F)(hF:∀b∈F,b<W.heap.size):(AV.agg (ds.map AV.d)).shows W [] (fun b=>b<W.heap.size) (.agg cs):=
 ⟨cs.toList,by simp,WA h hF⟩
theorem law_of{f:FuncId}{xs:List AV}{us:List Value}(h:ACalls P f xs [.d (.b true)] [])(hs:Qn W [] (fun b=>b<W.heap.size) xs us):Calls P f us.toArray W fun e W'=>e=.returned (.bool true)/\Below W.heap.size W W':=
 ((h W us hs).2).mono fun e W' ⟨v,en,he,m,_,hr⟩=>by
  obtain⟨F,⟨a,_⟩,_⟩:=hr
  exact⟨by rw[he,a],Qb6 m⟩
end
end Go.Proofs.YtkdniahincpmaaaGreat
