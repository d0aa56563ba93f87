/-
  The walk over abstract states: the call of a function under its contract; nil made an object.
-/
import Derived.Test.YtihgfennoalocaaGreatKB1
import Derived.Deep.DeepAppendWide
import Derived.Great.BuildSlice
import Derived.Laws.IdiomStrings
import Derived.Laws.BytesString
import Derived.Laws.StructEq
import Derived.Lib.MinMax
set_option maxRecDepth 100000
set_option maxHeartbeats 16000000
namespace Go.Proofs.YtihgfennoalocaaGreat
open Go Go.RowKit
section

def snap1(ob:List (Nat×AO)):AV->Option AV
 | .sub p i j=>match Qm ob p with
  | some (.row _ es _)=>some (.d (.sl ((es.take j).drop i)))
  | _=>none
 | .d x=>some (.d x)
 | .nil=>some (.d (.sl []))
 | .row p=>match Qm ob p with
  | some (.row _ es _)=>some (.d (.sl es))
  | _=>none
 | _=>none
def Qrj(ob:List (Nat×AO)):List AV->Option (List AV)
 | []=>some []
 | x::xs=>match snap1 ob x with
  | some y=>match Qrj ob xs with
   | some ys=>some (y::ys)
   | none=>none
  | none=>none
def Qrb(ob:List (Nat×AO)):List AV->Option (List D)
 | []=>some []
 | x::xs=>match snap1 ob x with
  | some (.d y)=>match Qrb ob xs with
   | some ys=>some (y::ys)
   | none=>none
  | _=>none
def Qsi(ob:List (Nat×AO)):AV->Option AV
 | .ptr p 0=>match Qm ob p with
  | some (.box _ cs)=>match Qrb ob cs with
   | some ds=>some (.pd ds 0)
   | none=>none
  | _=>none
 | .pd e i=>some (.pd e i)
 | x=>snap1 ob x
def QhY(ob:List (Nat×AO)):List AV->Option (List AV)
 | []=>some []
 | x::xs=>match Qsi ob x with
  | some y=>match QhY ob xs with
   | some ys=>some (y::ys)
   | none=>none
  | none=>none
def QnE(ob:List (Nat×AO)):AV->Option AV
 | .agg xs=>match Qrj ob xs with
  | some ys=>some (.agg ys)
  | none=>none
 | .clo g xs=>match QhY ob xs with
  | some ys=>some (.clo g ys)
  | none=>none
 | x=>snap1 ob x
def AS.snaps(σ:AS):List Operand->Option (List AV)
 | []=>some []
 | x::xs=>match QnE σ.ob (σ.ev x) with
  | some y=>match σ.snaps xs with
   | some ys=>some (y::ys)
   | none=>none
  | none=>none
theorem QaG{X:Cx}{σ:AS}{a:Act}{w:World}{en:List Ent}(h:JO X σ a w en){p:Nat}{e:TypeId}{es:List (List D)}{dp:Bool}(hp:Qm σ.ob p=some (.row e es dp)) :
  ∃y∈en,y.nm=p/\y.ao=.row e es dp/\∃F,(D.sl es).rep w y.val F/\∀b∈F,(b∈y.fs\/blk y.val=some b):=by
 obtain⟨y,hy,hyn,hya⟩:=h.ent hp
 have hok:=h.mem.ok y hy
 have hlt:=fun b hb=>(hok.lt (b:=b) hb).1
 unfold EntOk at hok
 rw[hya]at hok
 obtain⟨z,us,k0,k1,k2,k3,k4,k5,k6,k7⟩:=hok
 obtain⟨A,c,g1,g2,g3,g4,g5⟩:=Jx k2
 refine⟨y,hy,hyn,hya,?_⟩
 by_cases he:es=[]
 ·subst he
  exact⟨[],⟨A,c,z,us,y.fs,g1,g2,g3,g4,k3,k4,.inl ⟨rfl,rfl⟩⟩,by simp⟩
 ·have hpos:0<es.length:=Xbp.2 he
  obtain⟨g,g6⟩:=g5 hpos
  subst g6
  refine⟨g::y.fs,⟨_,c,z,us,y.fs,g1,g2,g3,g4,k3,k4,.inr ⟨he,g,0,rfl,hlt g (by rw[g1];rfl),rfl,fun j v hj=>?_⟩⟩,fun b hb=>?_⟩
  ·rw[g1]at k2
   have hl:=(List.getElem?_eq_some_iff.1 hj).1
   rw[k2.1]at hl
   rw[XaZ,k2.cellAt j hl]
   exact hj
  ·rcases Xaj.1 hb with rfl|hb
   ·exact .inr (by rw[g1];rfl)
   ·exact .inl hb
theorem Js{X:Cx}{σ:AS}{a:Act}{w:World}{en:List Ent}(h:JO X σ a w en){x y:AV}{u:Value}(hx:snap1 σ.ob x=some y)(hs:x.shows w en (IM X en w) u):y.shows w [] (fun b=>b<w.heap.size) u:=by
 cases x with
 | d x=>
  injection hx with hx;subst hx
  obtain⟨F,h1,_⟩:=hs
  exact⟨F,h1,D.rep_lt x u F h1⟩
 | nil=>
  injection hx with hx;subst hx
  rw[show u=.slice none 0 0 from hs]
  exact⟨[],⟨none,0,0,[],[],rfl,Xam _,Xab _,fun _=>rfl,by simp,⟨rfl,rfl⟩,.inl ⟨rfl,rfl⟩⟩,by simp⟩
 | row p=>
  simp only[snap1]at hx
  split at hx
  ·rename_i e es dp hl
   injection hx with hx;subst hx
   obtain⟨y,hy,hyn,hya,F,h1,_⟩:=QaG h hl
   obtain⟨y',hy',e1,e2,e3⟩:=hs
   have:=h.mem.ent_unique hy' hy (e1.trans hyn.symm)
   subst this
   subst e3
   exact⟨F,h1,D.rep_lt _ _ F h1⟩
  ·cases hx
 | sub p i j=>
  simp only[snap1]at hx
  split at hx
  ·rename_i e es dp hl
   injection hx with hx;subst hx
   obtain⟨y,hy,hyn,hya,F,h1,_⟩:=QaG h hl
   obtain⟨y',hy',e1,e2,e3,A,n,c,z,e4,e5,rfl⟩:=hs
   have:=h.mem.ent_unique hy' hy (e1.trans hyn.symm)
   subst this
   rw[e4]at h1
   rw[hya]at e3 e5
   obtain⟨F',f1,f2⟩:=QmA (z:=z) (i:=i) (j:=j) h1 (fun e he=>e5 e.length (Xad.2 ⟨e,he,rfl⟩)) e3.1 (by have:=e3.2;simp only[AO.lens,Xah]at this;exact this)
   exact⟨F',f1,D.rep_lt _ _ F' f1⟩
  ·cases hx
 | _=>cases hx
theorem QcM{X:Cx}{σ:AS}{a:Act}{w:World}{en:List Ent}(h:JO X σ a w en):∀{xs ys:List AV} {us:List Value},Qrj σ.ob xs=some ys->Qn w en (IM X en w) xs us->Qn w [] (fun b=>b<w.heap.size) ys us
 | [],ys,us,hx,hs=>by
  injection hx with hx;subst hx
  exact hs
 | x::xs,ys,us,hx,hs=>by
  obtain⟨u,us',rfl,h1,h2⟩:=hs
  simp only[Qrj]at hx
  split at hx
  ·rename_i y hy
   split at hx
   ·rename_i zs hzs
    injection hx with hx;subst hx
    exact⟨u,us',rfl,Js h hy h1,QcM h hzs h2⟩
   ·cases hx
  ·cases hx
theorem QdM{X:Cx}{σ:AS}{a:Act}{w:World}{en:List Ent}(h:JO X σ a w en):∀{xs:List AV} {ds:List D} {us:List Value},Qrb σ.ob xs=some ds->Qn w en (IM X en w) xs us->∃F,repL w ds us F/\∀b∈F,b<w.heap.size
 | [],ds,us,hx,hs=>by
  injection hx with hx;subst hx
  exact⟨[],⟨hs,rfl⟩,by simp⟩
 | x::xs,ds,us,hx,hs=>by
  obtain⟨u,us',rfl,h1,h2⟩:=hs
  simp only[Qrb]at hx
  split at hx
  ·rename_i y hy
   split at hx
   ·rename_i zs hzs
    injection hx with hx;subst hx
    obtain⟨F1,g1,g2⟩:=Js h hy h1
    obtain⟨F2,g3,g4⟩:=QdM h hzs h2
    exact⟨F1++F2,⟨u,us',F1,F2,rfl,rfl,g1,g3⟩,fun b hb=>(Xag.1 hb).elim (g2 b) (g4 b)⟩
   ·cases hx
  ·cases hx
theorem Qjs{X:Cx}{σ:AS}{a:Act}{w:World}{en:List Ent}(h:JO X σ a w en){x y:AV}{u:Value}(hx:Qsi σ.ob x=some y)(hs:x.shows w en (IM X en w) u):y.shows w [] (fun b=>b<w.heap.size) u:=by
 unfold Qsi at hx
 split at hx
 ·rename_i p
  split at hx
  ·rename_i e cs hp
   split at hx
   ·rename_i ds hds
    injection hx with hx;subst hx
    obtain⟨y,hy,hyn,hyr,g,hg,rfl⟩:=hs
    obtain⟨y',hy',hyn',hya'⟩:=h.ent hp
    have:=h.mem.ent_unique hy hy' (hyn.trans hyn'.symm)
    subst this
    have hok:=h.mem.ok y hy
    have hlt:=(hok.lt hg).1
    unfold EntOk at hok
    rw[hya']at hok
    obtain⟨_,q,cur,k1,k2,k3,k4⟩:=hok
    have hq:q=g:=by
     rw[k1]at hg
     injection hg
    subst hq
    obtain⟨F,f1,f2⟩:=QdM h hds k4
    refine⟨q,0,cur.toList,F,rfl,f1,fun j v hj=>?_,hlt,f2⟩
    simp only[World.cell?,k3,XaZ]
    simpa using hj
   ·cases hx
  ·cases hx
 ·injection hx with hx;subst hx
  obtain⟨b,o,us,F,h1,h2,h3,h4,h5⟩:=hs
  exact⟨b,o,us,F,h1,h2,h3,h4.2.1,fun c hc=>(h5 c hc).2.1⟩
 ·exact Js h hx hs
theorem ZB{X:Cx}{σ:AS}{a:Act}{w:World}{en:List Ent}(h:JO X σ a w en):∀{xs ys:List AV} {us:List Value},QhY σ.ob xs=some ys->Qn w en (IM X en w) xs us->Qn w [] (fun b=>b<w.heap.size) ys us
 | [],ys,us,hx,hs=>by
  injection hx with hx;subst hx
  exact hs
 | x::xs,ys,us,hx,hs=>by
  obtain⟨u,us',rfl,h1,h2⟩:=hs
  simp only[QhY]at hx
  split at hx
  ·rename_i y hy
   split at hx
   ·rename_i zs hzs
    injection hx with hx;subst hx
    exact⟨u,us',rfl,Qjs h hy h1,ZB h hzs h2⟩
   ·cases hx
  ·cases hx
theorem QiN{X:Cx}{σ:AS}{a:Act}{w:World}{en:List Ent}(h:JO X σ a w en){x y:AV}{u:Value}(hx:QnE σ.ob x=some y)(hs:x.shows w en (IM X en w) u):y.shows w [] (fun b=>b<w.heap.size) u:=by
 cases x with
 | agg xs=>
  simp only[QnE]at hx
  split at hx
  ·rename_i ys hys
   injection hx with hx;subst hx
   obtain⟨us,h1,h2⟩:=hs
   exact⟨us,h1,QcM h hys h2⟩
  ·cases hx
 | d x=>exact Js (x:=.d x) h hx hs
 | nil=>exact Js (x:=.nil) h hx hs
 | row p=>exact Js (x:=.row p) h hx hs
 | ptr p q=>exact Js (x:=.ptr p q) h hx hs
 | pr p q r=>exact Js (x:=.pr p q r) h hx hs
 | pd p q=>exact Js (x:=.pd p q) h hx hs
 | any=>exact Js (x:=.any) h hx hs
 | tup p=>exact Js (x:=.tup p) h hx hs
 | sub p q r=>exact Js (x:=.sub p q r) h hx hs
 | clo g xs=>
  simp only[QnE]at hx
  split at hx
  ·rename_i ys hys
   injection hx with hx;subst hx
   obtain⟨us,h1,h2⟩:=hs
   exact⟨us,h1,ZB h hys h2⟩
  ·cases hx
theorem Zf{X:Cx}{σ:AS}{a:Act}{w:World}{en:List Ent}(h:JO X σ a w en):∀{xs:List Operand} {ys:List AV},σ.snaps xs=some ys->Qn w [] (fun b=>b<w.heap.size) ys (xs.map a.eval)
 | [],ys,hx=>by
  injection hx with hx;subst hx
  rfl
 | x::xs,ys,hx=>by
  simp only[AS.snaps]at hx
  split at hx
  ·rename_i y hy
   split at hx
   ·rename_i zs hzs
    injection hx with hx;subst hx
    exact⟨_,_,rfl,QiN h hy (AS.ev_shows h x),Zf h hzs⟩
   ·cases hx
  ·cases hx

def Jo(t i:Nat):Nat:=t+1000*i
mutual
def AV.shift(t:Nat):AV->AV
 | .row i=>.row (Jo t i)
 | .agg xs=>.agg (QhO t xs)
 | .tup xs=>.tup (QhO t xs)
 | .clo g xs=>.clo g (QhO t xs)
 | .sub o i j=>.sub (Jo t o) i j
 | .any=>.any
 | .d x=>.d x
 | .nil=>.nil
 | .ptr o i=>.ptr (Jo t o) i
 | .pr o i j=>.pr (Jo t o) i j
 | .pd e i=>.pd e i
def QhO(t:Nat):List AV->List AV
 | []=>[]
 | x::xs=>x.shift t::QhO t xs
end
def Wr(t:Nat):List (Nat×AO)->List (Nat×AO)
 | []=>[]
 | (i,ao)::l=>(Jo t i,ao)::Wr t l
def QcI(f:Nat->Bool)(t:Nat)(ob:List (Nat×AO)):List (Nat×AO)->Bool
 | []=>true
 | (i,ao)::l=>ao.isRow&&Yz f (Jo t i) ob&&QcI f t ob l
theorem Qew{t i j:Nat}(h:Jo t i=Jo t j):i=j:=by unfold Jo at h;omega
theorem Qdk{f:Nat->Bool}{t:Nat}{ob:List (Nat×AO)}:∀{l:List (Nat×AO)},QcI f t ob l=true->∀y∈l,y.2.isRow=true/\Yz f (Jo t y.1) ob=true
 | (i,ao)::l,h,y,hy=>by
  simp only[QcI,Xaf]at h
  rcases Xaj.1 hy with rfl|hy
  ·exact⟨h.1.1,h.1.2⟩
  ·exact Qdk h.2 y hy
theorem QeP(t:Nat):∀(l:List (Nat×AO)),Wr t l=l.map fun y=>(Jo t y.1,y.2)
 | []=>rfl
 | (i,ao)::l=>by simp[Wr,QeP t l]
section
variable {w:World} {en en':List Ent} {I I':Nat->Prop} {t:Nat}
mutual
theorem AV.shows_shift(hI:∀b,I b->I' b)(he:∀x∈en,∃y∈en',y.nm=Jo t x.nm/\y.val=x.val/\y.ao=x.ao):∀(x:AV) (u:Value),x.shows w en I u->(x.shift t).shows w en' I' u
 | .any,_,_=>trivial
 | .d x,u,h=>by
  obtain⟨F,h1,h2⟩:=h
  exact⟨F,h1,fun b hb=>hI b (h2 b hb)⟩
 | .nil,_,h=>h
 | .row o,u,h=>by
  obtain⟨x,hx,rfl,h1,h2⟩:=h
  obtain⟨y,hy,g1,g2,g3⟩:=he x hx
  exact⟨y,hy,g1,by rw[g3];exact h1,by rw[g2];exact h2⟩
 | .ptr o off,u,h=>by
  obtain⟨x,hx,rfl,h1,g,h2,h3⟩:=h
  obtain⟨y,hy,g1,g2,g3⟩:=he x hx
  exact⟨y,hy,g1,by rw[g3];exact h1,g,by rw[g2];exact h2,h3⟩
 | .pr o i off,u,h=>by
  obtain⟨x,hx,rfl,h1,g,z,h2,h3,h4,h5⟩:=h
  obtain⟨y,hy,g1,g2,g3⟩:=he x hx
  exact⟨y,hy,g1,by rw[g3];exact h1,g,z,by rw[g2];exact h2,by rw[g3];exact h3,by rw[g3];exact h4,h5⟩
 | .pd e off,u,h=>by
  obtain⟨b,o,us,F,h1,h2,h3,h4,h5⟩:=h
  exact⟨b,o,us,F,h1,h2,h3,hI b h4,fun c hc=>hI c (h5 c hc)⟩
 | .agg xs,u,h=>by
  obtain⟨us,h1,h2⟩:=h
  exact⟨us,h1,Vq hI he xs us h2⟩
 | .tup xs,u,h=>by
  obtain⟨us,h1,h2⟩:=h
  exact⟨us,h1,Vq hI he xs us h2⟩
 | .clo g xs,u,h=>by
  obtain⟨us,h1,h2⟩:=h
  exact⟨us,h1,Vq hI he xs us h2⟩
 | .sub o i j,u,h=>by
  obtain⟨x,hx,rfl,h1,h2,A,n,c,z,h3,h4,h5⟩:=h
  obtain⟨y,hy,g1,g2,g3⟩:=he x hx
  exact⟨y,hy,g1,by rw[g3];exact h1,by rw[g3];exact h2,A,n,c,z,by rw[g2];exact h3,by rw[g3];exact h4,h5⟩
theorem Vq(hI:∀b,I b->I' b)(he:∀x∈en,∃y∈en',y.nm=Jo t x.nm/\y.val=x.val/\y.ao=x.ao):∀(xs:List AV) (us:List Value),Qn w en I xs us->Qn w en' I' (QhO t xs) us
 | [],_,h=>h
 | x::xs,us,h=>by
  obtain⟨u,us',h1,h2,h3⟩:=h
  exact⟨u,us',h1,AV.shows_shift hI he x u h2,Vq hI he xs us' h3⟩
end
end
theorem Qbk{P:Program}{w w':World}{en:List Ent}(m:Mem P w NoZ NoB en w'):Ext w w':=⟨m.os,m.tape,m.output,m.size,fun b hb=>m.old b hb id⟩
theorem JO.merge{X:Cx}{σ:AS}{a:Act}{w w':World}{en er:List Ent}{t:Nat}{rob:List (Nat×AO)}{r:AV}{v:Value}(h:JO X σ a w en)(m:Mem X.P w NoZ NoB er w')(hk:(er.map Ent.key).Perm rob)(hr:r.shows w' er (Imm w NoZ NoB er w') v)
  (hf:QcI X.fre t σ.ob rob=true) (ht:Nat.blt t σ.nt=true):Rel X ⟨σ.nt,(t,r.shift t)::σ.sl,Wr t rob++σ.ob⟩ (a.put (some t) v) w':=by
 have hx:=Qbk m
 have h0:=h.ext hx
 have m0:=h.mem
 have m1:=h0.mem
 have hlt:∀y∈en,∀b,y.hd b->b<w.heap.size:=fun y hy b hb=>((m0.ok y hy).lth hb).1
 have hge:∀y∈er,∀b,y.hd b->w.heap.size<=b:=fun y hy b hb=>(((m.ok y hy).lth hb).2).resolve_left id
 have hrow:∀y∈er,y.ao.isRow=true/\Yz X.fre (Jo t y.nm) σ.ob=true:=fun y hy=>Qdk hf y.key (hk.mem_iff.1 (Xad.2 ⟨y,hy,rfl⟩))
 let g:Ent->Ent:=fun y=>{ y with nm:=Jo t y.nm }
 have hI0:∀b,Imm X.w0 X.Z X.O en w' b->b<w.heap.size->Imm X.w0 X.Z X.O (er.map g++en) w' b:=fun b hb hbw=>⟨hb.1,hb.2.1,fun y hy=>by
  rcases Xag.1 hy with hy|hy
  ·obtain⟨z,hz,rfl⟩:=Xad.1 hy
   intro e
   have:=hge z hz b e
   omega
  ·exact hb.2.2 y hy⟩
 have hIr:∀b,Imm w NoZ NoB er w' b->Imm X.w0 X.Z X.O (er.map g++en) w' b:=fun b hb=>by
  have hbw:w.heap.size<=b:=(hb.1.resolve_left id).resolve_left id
  refine⟨.inr (.inr (Xao m0.size hbw)),hb.2.1,fun y hy=>?_⟩
  rcases Xag.1 hy with hy|hy
  ·obtain⟨z,hz,rfl⟩:=Xad.1 hy
   exact hb.2.2 z hz
  ·intro e
   have:=hlt y hy b e
   omega
 have hsh:∀(x:AV) (u:Value),x.shows w en (IM X en w) u->x.shows w' (er.map g++en) (IM X (er.map g++en) w') u:=fun x u hxu=>
  AV.shows_mono hx.size (fun b hb=>hx.block b hb.2.1) (fun b hb=>hI0 b ⟨hb.1,XaL hb.2.1 hx.size,hb.2.2⟩ hb.2.1) (fun y hy=>⟨y,Xav _ hy,rfl,rfl,rfl,rfl⟩) hxu
 have hmem:Mem X.P X.w0 X.Z X.O (er.map g++en) w':=by
  refine⟨m1.os,m1.tape,m1.output,m1.size,m1.old,?_,?_,?_,?_,fun y hy=>?_⟩
  ·rw[XaI,Xbe]
   refine⟨?_,m0.names,?_⟩
   ·have:(er.map g).map Ent.nm=(er.map Ent.nm).map (Jo t):=by simp only[XaS];rfl
    rw[this]
    exact XaW _ (fun x y hxy e=>hxy (Qew e)) m.names
   ·intro n hn n' hn' e
    subst e
    obtain⟨y,hy,e1⟩:=Xad.1 hn
    obtain⟨z,hz,rfl⟩:=Xad.1 hy
    obtain⟨q,hq,e2⟩:=Xad.1 hn'
    have h3:=(Q0 (hrow z hz).2).1
    have:hasN (Jo t z.nm) σ.ob=true:=Q9.2 ⟨q.key,h.ob.mem_iff.1 (Xad.2 ⟨q,hq,rfl⟩),e2.trans e1.symm⟩
    rw[h3]at this;cases this
  ·rw[Xbc]
   refine⟨XaW _ (fun x y hxy=>hxy) m.blks,m0.blks,fun y hy z hz b hb hb'=>?_⟩
   obtain⟨q,hq,rfl⟩:=Xad.1 hy
   have h1:=hge q hq b hb
   have h2:=hlt z hz b hb'
   omega
  ·intro y hy
   rcases Xag.1 hy with hy|hy
   ·obtain⟨z,hz,rfl⟩:=Xad.1 hy
    have hok:=m.ok z hz
    have hzr:=(hrow z hz).1
    unfold EntOk at hok
    split at hok
    ·rename_i e es dp hao
     obtain⟨s,us,k0,k1,k2,k3,k4,k5,k6,k7⟩:=hok
     unfold EntOk
     simp only[g,hao]
     exact⟨s,us,k0,k1,k2,k3,k4,fun hd b hb=>hIr b (k5 hd b hb),fun q hq=>.inr (Xao m0.size ((k6 q hq).resolve_left id)),fun hd=>⟨(k7 hd).1,fun b hb=>⟨.inr (Xao m0.size (((k7 hd).2.1 b hb).1.resolve_left id)),((k7 hd).2.1 b hb).2⟩,(k7 hd).2.2⟩⟩
    ·rename_i e cs hao
     rw[hao]at hzr;cases hzr
   ·have h3:=(m0.ok y hy).mono (p:=fun _=>true) (w':=w') (en':=er.map g++en) (I':=IM X (er.map g++en) w') (Fr':=Frs X.w0 X.O) hx.size (fun b hb=>hx.block b hb.2.1)
     (fun b hb=>hI0 b ⟨hb.1,XaL hb.2.1 hx.size,hb.2.2⟩ hb.2.1) (fun _ hb=>hb) (fun b hb=>hx.block b (hlt y hy b hb)) (fun y hy _=>⟨y,Xav _ hy,rfl,rfl,rfl,rfl⟩)
    have e:y.cut (fun _=>true)=y:=by cases y;simp[Ent.cut,AO.cut_true]
    rwa [e]at h3
  ·rw[Xbc]
   refine⟨XaW _ (fun x y hxy=>hxy) m.apart,m0.apart,fun y hy z hz hdy hdz b hb hb'=>?_⟩
   obtain⟨q,hq,rfl⟩:=Xad.1 hy
   have h1:w.heap.size<=b:=hge q hq b (.inr ⟨hdy,hb⟩)
   have h2:b<w.heap.size:=hlt z hz b (.inr ⟨hdz,hb'⟩)
   omega
  ·rcases Xag.1 hy with hy|hy
   ·obtain⟨z,hz,rfl⟩:=Xad.1 hy
    exact X.Z.lo _ _ (Q0 (hrow z hz).2).2
   ·exact m0.fix y hy
 have h2:JO X ⟨σ.nt,σ.sl,Wr t rob++σ.ob⟩ a w' (er.map g++en):=by
  refine⟨hmem,?_,h.defers,h.size,fun s=>hsh _ _ (h.slots s)⟩
  rw[XaI]
  refine XcI ?_ h.ob
  rw[QeP]
  have e:(er.map g).map Ent.key=(er.map Ent.key).map fun y=>(Jo t y.1,y.2):=by simp only[XaS];rfl
  rw[e]
  exact hk.map _
 exact⟨_,h2.put (AV.shows_shift hIr (fun x hx=>⟨g x,Xat _ (Xad.2 ⟨x,hx,rfl⟩),rfl,rfl,rfl⟩) r v hr) ht⟩
section
variable {X:Cx} {σ:AS} {o:Oper} {K:AS->Prop} {t:Nat}
theorem Y5{P:Program}{o:Oper}{f:FuncId}{as:Array Operand}{ats:Array TypeId}(ho:o.op=.call { callee:=.value (.func f),args:=as,argTypes:=ats })(a:Act)(w:World) :
  (execOp a.eval o).run P w=(callFunc f (as.toList.map a.eval).toArray).run P w:=by
 have e:as.map a.eval=(as.toList.map a.eval).toArray:=by cases as;simp
 simp only[execOp,ho,resolve,e]
 simp[Act.eval,Deferred.ofValue,invoke]
theorem QoL{f:FuncId}{as:Array Operand}{ats:Array TypeId}{xs rs:List AV}{rob:List (Nat×AO)}(hc:ACalls X.P f xs rs rob)(ho:o.op=.call { callee:=.value (.func f),args:=as,argTypes:=ats })(hd:o.dst=some t)
  (hx:σ.snaps as.toList=some xs) (hf:QcI X.fre t σ.ob rob=true) (ht:Nat.blt t σ.nt=true) (hK:K ⟨σ.nt,(t,(one rs).shift t)::σ.sl,Wr t rob++σ.ob⟩):OpOk X o σ K:=by
 intro a w hr next Q hn
 obtain⟨en,h1⟩:=hr
 obtain⟨h2,h3⟩:=hc w _ (Zf h1 hx)
 unfold Oper.wp
 rw[Y5 ho,h2,Oper.upon_enter]
 refine h3.mono fun e w' ⟨v,er,he,m,hk,hr⟩=>?_
 subst he
 rw[hd]
 exact hn _ _ _ hK (h1.merge m hk hr hf ht)
end
end
section

def vput(σ:AS)(t:Nat)(v:AV):Option AS:=
 bif Nat.blt t σ.nt then(match v with
 | .any=>some (σ.put t .any)
 | .d (.n k x)=>some (σ.put t (.d (.n k x)))
 | .d (.b x)=>some (σ.put t (.d (.b x)))
 | .d (.s x)=>some (σ.put t (.d (.s x)))
 | .d (.sl x)=>some (σ.put t (.d (.sl x)))
 | .d .un=>some (σ.put t (.d .un))
 | .nil=>some (σ.put t .nil)
 | .row o=>some (σ.put t (.row o))
 | .ptr o i=>some (σ.put t (.ptr o i))
 | .pr o i j=>some (σ.put t (.pr o i j))
 | .pd e i=>some (σ.put t (.pd e i))
 | .agg xs=>some (σ.put t (.agg xs))
 | .tup xs=>some (σ.put t (.tup xs))
 | .clo g xs=>some (σ.put t (.clo g xs))
 | .sub o i j=>some (σ.put t (.sub o i j)))else none
theorem QT{σ σ':AS}{t:Nat}{v:AV}(h:vput σ t v=some σ'):σ'=σ.put t v/\Nat.blt t σ.nt=true:=by
 unfold vput at h
 cases hb:Nat.blt t σ.nt with
 | false=>rw[hb]at h;cases h
 | true=>
  rw[hb]at h
  simp only[cond_true]at h
  split at h <;> (injection h with h;exact⟨h.symm,rfl⟩)
def Vj{α:Type}:List AV->(List AV->Option α)->Option α
 | [],k=>k []
 | x::xs,k=>Vj xs fun ys=>k (x::ys)
theorem Yu{α:Type}:∀(xs:List AV) (k:List AV->Option α),Vj xs k=k xs
 | [],k=>rfl
 | x::xs,k=>by rw[Vj,Yu xs]
def cmpI(op:BinOp)(x y:Int):Option Bool:=
 match op with
 | .eql=>some (x==y)
 | .neq=>some (x != y)
 | .lss=>some (decide (x<y))
 | .leq=>some (decide (x<=y))
 | .gtr=>some (decide (y<x))
 | .geq=>some (decide (y<=x))
 | _=>none
def binA(σ:AS)(t:Nat)(op:BinOp)(bool:Bool)(x y:AV):Option AS:=
 match x with
 | .d (.n k p)=>match y with
  | .d (.n k' q)=>match decEq k k' with
   | .isTrue _=>match cmpI op p q with
    | some b=>vput σ t (.d (.b b))
    | none=>none
   | .isFalse _=>none
  | _=>none
 | .d (.s l)=>match y with
  | .d (.s r)=>match op with
   | .eql=>vput σ t (.d (.b (l==r)))
   | .neq=>vput σ t (.d (.b (l != r)))
   | _=>none
  | _=>none
 | .d (.b p)=>match y with
  | .d (.b q)=>bif bool then(match op with
   | .eql=>vput σ t (.d (.b (p==q)))
   | .neq=>vput σ t (.d (.b (p != q)))
   | _=>none)else none
  | _=>none
 | _=>none
def QnD:TypeDesc->Bool
 | .bool=>true
 | _=>false
def Qts(X:Cx)(T:TypeId):Bool:=match X.tt T with
 | some ti=>QnD ti.desc
 | none=>false
def newO(fre:Nat->Bool)(σ:AS)(t:Nat)(T:TypeId)(cs:List AV):Option AS:=
 bif Nat.blt t σ.nt then(bif Yz fre t σ.ob then some ⟨σ.nt,(t,.ptr t 0)::σ.sl,(t,.box T cs)::YB t σ.ob⟩else none)else none
def aopV(X:Cx)(o:Oper)(σ:AS):Option AS:=
 match o.dst with
 | some t=>match o.op with
  | .move x=>vput σ t (σ.ev x)
  | .assign x=>vput σ t (σ.ev x)
  | .pick c x y=>match σ.ev c with
   | .d (.b q)=>match q with
    | true=>vput σ t (σ.ev x)
    | false=>vput σ t (σ.ev y)
   | _=>none
  | .extract x i=>match σ.ev x with
   | .tup xs=>match xs[i]? with
    | some v=>vput σ t v
    | none=>none
   | _=>none
  | .unOp .not _ x=>match σ.ev x with
   | .d (.b q)=>vput σ t (.d (.b (!q)))
   | _=>none
  | .nilCheck x=>match σ.ev x with
   | .ptr p i=>vput σ t (.ptr p i)
   | .pd e i=>vput σ t (.pd e i)
   | .clo g xs=>vput σ t (.clo g xs)
   | _=>none
  | .makeFunc (.func g) fs cs=>match fs.toList with
   | []=>Vj (cs.toList.map σ.ev) fun xs=>vput σ t (.clo g xs)
   | _=>none
  | .binOp op T x y _=>binA σ t op (Qts X T) (σ.ev x) (σ.ev y)
  | .load T x=>match X.tt T with
   | some ti=>match σ.at (σ.ev x) with
    | some xs=>bif JQ ti.desc then Vj (xs.take ti.size) (fun ys=>bif Nat.beq ys.length ti.size then vput σ t (.agg ys)else none)
     else(match xs[0]? with
      | some v=>vput σ t v
      | none=>none)
    | none=>none
   | none=>none
  | .fieldAddr T x f=>match X.tt T with
   | some ti=>match Qca ti.desc f with
    | some (off,ft)=>match X.tt ft with
     | some tf=>bif Nat.beq tf.size 0 then none else(match (σ.ev x) with
      | .ptr p i=>vput σ t (.ptr p (i+off))
      | .pr p i j=>vput σ t (.pr p i (j+off))
      | .pd e i=>vput σ t (.pd e (i+off))
      | _=>none)
     | none=>none
    | none=>none
   | none=>none
  | _=>none
 | none=>none
def aopM(X:Cx)(o:Oper)(σ:AS):Option AS:=
 match o.dst with
 | some t=>match o.op with
  | .alloc T=>match X.tt T with
   | some ti=>Vj (W0 ti.zero) fun cs=>newO X.fre σ t T cs
   | none=>none
  | .box T x=>match (σ.ev x).cellsV with
   | some cs=>newO X.fre σ t T cs
   | none=>none
  | _=>none
 | none=>match o.op with
  | .store T x y=>match X.tt T with
   | some ti=>match σ.ev x with
    | .ptr p off=>match Qm σ.ob p with
     | some (.box e cs)=>match (σ.ev y).cellsV with
      | some xs=>bif Nat.beq xs.length ti.size then(bif Nat.ble (off+ti.size) cs.length then Vj (splice cs off xs) (fun ys=>some ⟨σ.nt,σ.sl,(p,.box e ys)::YB p σ.ob⟩)else none)else none
      | none=>none
     | _=>none
    | _=>none
   | none=>none
  | _=>none
def aop(X:Cx)(o:Oper)(σ:AS):Option AS:=match aopV X o σ with
 | some σ'=>some σ'
 | none=>aopM X o σ
def gOp(f:Oper->AS->Option AS)(ops:Array Oper)(o:Oper)(σ:AS):Option AS:=
 match o.guard with
 | none=>f o σ
 | some (j,w)=>match (ops[j]?).bind (·.dst) with
  | none=>none
  | some d=>match look σ.sl d with
   | .d (.b q)=>match q with
    | true=>match w with
     | true=>f o σ
     | false=>match o.dst with
      | some s=>vput σ s (.tup [])
      | none=>none
    | false=>match w with
     | false=>f o σ
     | true=>match o.dst with
      | some s=>vput σ s (.tup [])
      | none=>none
   | .tup []=>match o.dst with
    | some s=>vput σ s (.tup [])
    | none=>none
   | _=>none
def aopG(X:Cx)(ops:Array Oper)(o:Oper)(σ:AS):Option AS:=gOp (aop X) ops o σ
def aopQ(X:Cx)(ops:Array Oper)(o:Oper)(σ:AS):Option AS:=gOp (aopV X) ops o σ
section
variable {X:Cx} {σ σ':AS} {o:Oper} {K:AS->Prop} {Q:Exit->AS->Prop}
theorem Qrg{op:BinOp}{k:IntKind}{p q:Int}{b:Bool}(h:cmpI op p q=some b):binI op k p q=some (.b b):=by
 cases op <;> simp_all[cmpI,binI]
theorem Qgy(h:aopV X o σ=some σ')(hK:K σ'):QOk X o σ K:=by
 unfold aopV at h
 split at h
 ·rename_i t hd
  split at h
  ·rename_i x ho
   obtain⟨rfl,ht⟩:=QT h
   exact QnA ho hd rfl ht hK
  ·rename_i x ho
   obtain⟨rfl,ht⟩:=QT h
   exact Qg4 ho hd rfl ht hK
  ·rename_i c x y ho
   split at h
   ·rename_i q hc
    split at h
    ·obtain⟨rfl,ht⟩:=QT h
     exact QnX ho hd hc rfl ht hK
    ·obtain⟨rfl,ht⟩:=QT h
     exact QnX ho hd hc rfl ht hK
   ·cases h
  ·rename_i x i ho
   split at h
   ·rename_i xs hx
    split at h
    ·rename_i v hv
     obtain⟨rfl,ht⟩:=QT h
     exact QlY ho hd hx hv ht hK
    ·cases h
   ·cases h
  ·rename_i T x ho
   split at h
   ·rename_i q hx
    obtain⟨rfl,ht⟩:=QT h
    exact Qul ho hd hx ht hK
   ·cases h
  ·rename_i x ho
   split at h
   ·rename_i p i hx
    obtain⟨rfl,ht⟩:=QT h
    exact Qjc ho hd hx ht hK
   ·rename_i e i hx
    obtain⟨rfl,ht⟩:=QT h
    exact QhH ho hd hx ht hK
   ·rename_i g xs hx
    obtain⟨rfl,ht⟩:=QT h
    exact QgL ho hd hx ht hK
   ·cases h
  ·rename_i g fs cs ho
   split at h
   ·rename_i hfs
    rw[Yu]at h
    obtain⟨rfl,ht⟩:=QT h
    have:fs=#[]:=by cases fs;simpa using hfs
    subst this
    exact QiL ho hd rfl ht hK
   ·cases h
  ·rename_i op T x y yt ho
   unfold binA at h
   split at h
   ·rename_i k p hx
    split at h
    ·rename_i k' q hy
     split at h
     ·rename_i hkk _
      subst hkk
      split at h
      ·rename_i b hb
       obtain⟨rfl,ht⟩:=QT h
       exact ZC ho hd hx hy (Qrg hb) ht hK
      ·cases h
     ·cases h
    ·cases h
   ·rename_i l hx
    split at h
    ·rename_i r hy
     split at h
     ·obtain⟨rfl,ht⟩:=QT h
      exact QtX ho hd hx hy ht hK
     ·obtain⟨rfl,ht⟩:=QT h
      exact Qva ho hd hx hy ht hK
     ·cases h
    ·cases h
   ·rename_i p hx
    split at h
    ·rename_i q hy
     cases hbt:Qts X T with
     | false=>rw[hbt]at h;cases h
     | true=>
      rw[hbt]at h
      unfold Qts at hbt
      split at hbt
      ·rename_i ti _
       have hde:ti.desc=.bool:=by
        unfold QnD at hbt
        split at hbt
        ·assumption
        ·cases hbt
       simp only[cond_true]at h
       split at h
       ·obtain⟨rfl,ht⟩:=QT h
        exact QuV (ti:=ti) hde ho hd hx hy ht hK
       ·obtain⟨rfl,ht⟩:=QT h
        exact Quq (ti:=ti) hde ho hd hx hy ht hK
       ·cases h
      ·cases hbt
    ·cases h
   ·cases h
  ·rename_i T x ho
   split at h
   ·rename_i ti _
    split at h
    ·rename_i xs hx
     cases ha:JQ ti.desc with
     | true=>
      rw[ha,cond_true,Yu]at h
      cases hl:Nat.beq (xs.take ti.size).length ti.size with
      | false=>rw[hl]at h;cases h
      | true=>
       rw[hl,cond_true]at h
       obtain⟨rfl,ht⟩:=QT h
       exact Qj6 (ti:=ti) ho hd (by rw[hx];rfl) hl ha ht hK
     | false=>
      rw[ha,cond_false]at h
      split at h
      ·rename_i v hv
       obtain⟨rfl,ht⟩:=QT h
       exact Qku (ti:=ti) ho hd (by rw[hx];exact hv) ha ht hK
      ·cases h
    ·cases h
   ·cases h
  ·rename_i T x f ho
   split at h
   ·rename_i ti _
    split at h
    ·rename_i off ft hf
     split at h
     ·rename_i tf _
      cases hz:Nat.beq tf.size 0 with
      | true=>rw[hz]at h;cases h
      | false=>
       rw[hz,cond_false]at h
       split at h
       ·rename_i p i hx
        obtain⟨rfl,ht⟩:=QT h
        exact Qf2 (ti:=ti) (tf:=tf) (v:=.ptr p i) ho hd hf hz hx rfl ht hK
       ·rename_i p i j hx
        obtain⟨rfl,ht⟩:=QT h
        exact Qf2 (ti:=ti) (tf:=tf) (v:=.pr p i j) ho hd hf hz hx rfl ht hK
       ·rename_i e i hx
        obtain⟨rfl,ht⟩:=QT h
        exact Qf2 (ti:=ti) (tf:=tf) (v:=.pd e i) ho hd hf hz hx rfl ht hK
       ·cases h
     ·cases h
    ·cases h
   ·cases h
  ·cases h
 ·cases h
theorem Qs2(h:aopM X o σ=some σ')(hK:K σ'):OpOk X o σ K:=by
 unfold aopM at h
 split at h
 ·rename_i t hd
  split at h
  ·rename_i T ho
   split at h
   ·rename_i ti _
    rw[Yu]at h
    unfold newO at h
    cases hb:Nat.blt t σ.nt with
    | false=>rw[hb]at h;cases h
    | true=>
     rw[hb]at h
     cases hn:Yz X.fre t σ.ob with
     | false=>rw[hn]at h;cases h
     | true=>
      rw[hn]at h
      simp only[cond_true,Xal]at h
      subst h
      exact Qp2 (ti:=ti) ho hd hn hb hK
   ·cases h
  ·rename_i T x ho
   split at h
   ·rename_i cs hx
    unfold newO at h
    cases hb:Nat.blt t σ.nt with
    | false=>rw[hb]at h;cases h
    | true=>
     rw[hb]at h
     cases hn:Yz X.fre t σ.ob with
     | false=>rw[hn]at h;cases h
     | true=>
      rw[hn]at h
      simp only[cond_true,Xal]at h
      subst h
      exact Quo ho hd hx hn hb hK
   ·cases h
  ·cases h
 ·rename_i hd
  split at h
  ·rename_i T x y ho
   split at h
   ·rename_i ti _
    split at h
    ·rename_i p off hx
     split at h
     ·rename_i e cs hp
      split at h
      ·rename_i xs hy
       cases hl:Nat.beq xs.length ti.size with
       | false=>rw[hl]at h;cases h
       | true=>
        rw[hl,cond_true]at h
        cases hfit:Nat.ble (off+ti.size) cs.length with
        | false=>rw[hfit]at h;cases h
        | true=>
         rw[hfit,cond_true,Yu]at h
         simp only[Xal]at h
         subst h
         exact QqZ (ti:=ti) ho hd hx hp hy hl hfit hK
      ·cases h
     ·cases h
    ·cases h
   ·cases h
  ·cases h
theorem QjP(h:aop X o σ=some σ')(hK:K σ'):OpOk X o σ K:=by
 unfold aop at h
 split at h
 ·rename_i σ1 h1
  injection h with h
  subst h
  exact(Qgy h1 hK).ok
 ·exact Qs2 h hK
theorem QsZ{ops:Array Oper}{l:List Oper}(h:aopG X ops o σ=some σ')(hK:QJ X ops l Q σ'):QJ X ops (o::l) Q σ:=by
 unfold aopG gOp at h
 split at h
 ·rename_i hg
  exact Qfz hg (QjP h hK)
 ·rename_i j w hg
  split at h
  ·cases h
  ·rename_i d hd
   split at h
   ·rename_i q hv
    split at h
    ·split at h
     ·exact Qix hg hd hv (QjP h hK)
     ·split at h
      ·rename_i s hs
       obtain⟨rfl,ht⟩:=QT h
       exact QrP hg hd hv rfl hs ht hK
      ·cases h
    ·split at h
     ·exact Qix hg hd hv (QjP h hK)
     ·split at h
      ·rename_i s hs
       obtain⟨rfl,ht⟩:=QT h
       exact QrP hg hd hv rfl hs ht hK
      ·cases h
   ·rename_i hv
    split at h
    ·rename_i s hs
     obtain⟨rfl,ht⟩:=QT h
     exact Qs3 hg hd hv hs ht hK
    ·cases h
   ·cases h
theorem QsO{ops:Array Oper}{N:AS->Prop}{l:List Oper}(h:aopQ X ops o σ=some σ')(hK:QsOk X ops l N σ'):QsOk X ops (o::l) N σ:=by
 unfold aopQ gOp at h
 split at h
 ·rename_i hg
  exact Qna hg (Qgy h hK)
 ·rename_i j w hg
  split at h
  ·cases h
  ·rename_i d hd
   split at h
   ·rename_i q hv
    split at h
    ·split at h
     ·exact QnC hg hd hv (Qgy h hK)
     ·split at h
      ·rename_i s hs
       obtain⟨rfl,ht⟩:=QT h
       exact Quf hg hd hv rfl hs ht hK
      ·cases h
    ·split at h
     ·exact QnC hg hd hv (Qgy h hK)
     ·split at h
      ·rename_i s hs
       obtain⟨rfl,ht⟩:=QT h
       exact Quf hg hd hv rfl hs ht hK
      ·cases h
   ·rename_i hv
    split at h
    ·rename_i s hs
     obtain⟨rfl,ht⟩:=QT h
     exact QuP hg hd hv hs ht hK
    ·cases h
   ·cases h
end
structure Qil (p:Prop):Prop where
 go:p
theorem Qt{X:Cx}{Q:Exit->AS->Prop}{σ:AS}(h:Qil (Q .ret σ)):AWp X .ret Q σ:=Qd5 h.go
theorem eq_b{x:AV}{p q:Bool}(h:x=.d (.b p))(h2:Qil (p=q)):x=.d (.b q):=h2.go▸h
theorem eq_n{x:AV}{k:IntKind}{p q:Int}(h:x=.d (.n k p))(h2:Qil (p=q)):x=.d (.n k q):=h2.go▸h
theorem eq_s{x:AV}{p q:List UInt8}(h:x=.d (.s p))(h2:Qil (p=q)):x=.d (.s q):=h2.go▸h
theorem Qvs{x:AV}{p q:List (List D)}(h:x=.d (.sl p))(h2:Qil (p=q)):x=.d (.sl q):=h2.go▸h
theorem Qt2{x:AV}{p q:List AV}(h:x=.agg p)(h2:p=q):x=.agg q:=h2▸h
theorem Qsd{l:List AV}{x y:AV}{p q:List AV}(h:l=x::p)(h1:x=y)(h2:p=q):l=y::q:=h1▸h2▸h
theorem Qu8{x:Option AO}{e:TypeId}{p q:List (List D)}{d:Bool}(h:x=some (.row e p d))(h2:Qil (p=q)):x=some (.row e q d):=h2.go▸h
theorem Qsv{x:Option AO}{e:TypeId}{p q:List AV}(h:x=some (.box e p))(h2:p=q):x=some (.box e q):=h2▸h

mutual
def AV.rigid:AV->Bool
 | .d (.n _ _)=>true
 | .d (.b _)=>true
 | .d (.s _)=>true
 | .nil=>true
 | .agg xs=>QcK xs
 | .tup xs=>QcK xs
 | _=>false
def QcK:List AV->Bool
 | []=>true
 | x::xs=>x.rigid&&QcK xs
end
mutual
def AV.val:AV->Value
 | .d (.n k x)=>.int k x
 | .d (.b t)=>.bool t
 | .d (.s l)=>.string ⟨l.toArray⟩
 | .nil=>.slice none 0 0
 | .agg xs=>.agg (valL xs).toArray
 | .tup xs=>.tuple (valL xs).toArray
 | _=>undef
def valL:List AV->List Value
 | []=>[]
 | x::xs=>x.val::valL xs
end
section
variable {w:World} {en:List Ent} {I:Nat->Prop}
mutual
theorem AV.rigid_val:∀(x:AV) (u:Value),x.rigid=true->x.shows w en I u->u=x.val
 | .d (.n k x),u,_,h=>by obtain⟨F,⟨h,_⟩,_⟩:=h;exact h
 | .d (.b t),u,_,h=>by obtain⟨F,⟨h,_⟩,_⟩:=h;exact h
 | .d (.s l),u,_,h=>by obtain⟨F,⟨h,_⟩,_⟩:=h;exact h
 | .nil,u,_,h=>h
 | .agg xs,u,hr,h=>by
  obtain⟨us,rfl,h⟩:=h
  rw[QbD xs us hr h,AV.val]
 | .tup xs,u,hr,h=>by
  obtain⟨us,rfl,h⟩:=h
  rw[QbD xs us hr h,AV.val]
theorem QbD:∀(xs:List AV) (us:List Value),QcK xs=true->Qn w en I xs us->us=valL xs
 | [],us,_,h=>h
 | x::xs,us,hr,h=>by
  obtain⟨u,us',rfl,h1,h2⟩:=h
  simp only[QcK,Xaf]at hr
  rw[AV.rigid_val x u hr.1 h1,QbD xs us' hr.2 h2,valL]
end
mutual
theorem AV.rigid_shows:∀(x:AV),x.rigid=true->x.shows w en I x.val
 | .d (.n k x),_=>⟨[],⟨rfl,rfl⟩,by simp⟩
 | .d (.b t),_=>⟨[],⟨rfl,rfl⟩,by simp⟩
 | .d (.s l),_=>⟨[],⟨rfl,rfl⟩,by simp⟩
 | .nil,_=>rfl
 | .agg xs,h=>⟨_,rfl,Z6 xs h⟩
 | .tup xs,h=>⟨_,rfl,Z6 xs h⟩
theorem Z6:∀(xs:List AV),QcK xs=true->Qn w en I xs (valL xs)
 | [],_=>rfl
 | x::xs,h=>by
  simp only[QcK,Xaf]at h
  exact⟨_,_,rfl,AV.rigid_shows x h.1,Z6 xs h.2⟩
end
end
section
variable {X:Cx} {σ:AS} {o:Oper} {K:AS->Prop} {t:Nat}
section num
variable {p q:Int} {m n:Nat} {xt yt:TypeId} {x y:Operand}
end num

def AS.els(σ:AS):AV->Option (List (List D))
 | .d (.sl es)=>some es
 | .nil=>some []
 | .row p=>match Qm σ.ob p with
  | some (.row _ es _)=>some es
  | _=>none
 | _=>none
def Qcu:TypeDesc->Option TypeId
 | .slice e=>some e
 | _=>none
def Ju(X:Cx)(T:TypeId):Option TypeId:=match X.tt T with
 | some ti=>Qcu ti.desc
 | none=>none
theorem QL{T e:TypeId}(h:Ju X T=some e):X.P.underlying T=some (.slice e):=by
 unfold Ju at h
 split at h
 ·rename_i ti _
  unfold Qcu at h
  split at h
  ·rename_i hde
   injection h with h
   subst h
   exact hde▸ti.und
  ·cases h
 ·cases h
def Qd8:TypeDesc->Bool
 | .string=>true
 | _=>false
def V8(X:Cx)(T:TypeId):Bool:=match X.tt T with
 | some ti=>Qd8 ti.desc
 | none=>false
theorem Wh{T:TypeId}(h:V8 X T=true):X.P.underlying T=some .string:=by
 unfold V8 at h
 split at h
 ·rename_i ti _
  unfold Qd8 at h
  split at h
  ·rename_i hde
   exact hde▸ti.und
  ·cases h
 ·cases h
theorem Zz{a:Act}{w:World}{en:List Ent}(h:JO X σ a w en){v:AV}{es:List (List D)}{u:Value}(hv:σ.els v=some es)(hs:v.shows w en (IM X en w) u) :
  ∃A cap,u=.slice A es.length cap/\es.length<=cap/\cap<=maxLen/\(A=none->cap=0)/\∃F,(D.sl es).rep w u F:=by
 cases v with
 | d x=>
  cases x with
  | sl es'=>
   simp only[AS.els,Xal]at hv
   subst hv
   obtain⟨F,h1,_⟩:=hs
   have h2:=h1
   obtain⟨A,cap,z,us,F',e1,h3,h4,h5,_⟩:=h1
   exact⟨A,cap,e1,h3,h4,h5,F,h2⟩
  | _=>cases hv
 | nil=>
  simp only[AS.els,Xal]at hv
  subst hv
  rw[show u=.slice none 0 0 from hs]
  exact⟨none,0,rfl,Xam _,Xab _,fun _=>rfl,[],none,0,0,[],[],rfl,Xam _,Xab _,fun _=>rfl,by simp,⟨rfl,rfl⟩,.inl ⟨rfl,rfl⟩⟩
 | row p=>
  simp only[AS.els]at hv
  split at hv
  ·rename_i e es' dp hl
   injection hv with hv
   subst hv
   obtain⟨y,hy,hyn,hya,F,h1,_⟩:=QaG h hl
   obtain⟨y',hy',e1,e2,rfl⟩:=hs
   have:=h.mem.ent_unique hy' hy (e1.trans hyn.symm)
   subst this
   have h2:=h1
   obtain⟨A,cap,z,us,F',e1,h3,h4,h5,_⟩:=h1
   exact⟨A,cap,e1,h3,h4,h5,F,h2⟩
  ·cases hv
 | _=>cases hv
theorem QnY{T e:TypeId}{x y:Operand}{es:List (List D)}{el:List D}{i:Int}{j n:Nat}[te:TI X.P e](ho:o.op=.indexAddr T x y)(hd:o.dst=some t)(hT:Ju X T=some e)(hx:σ.ev x=.d (.sl es))(hy:σ.ev y=.d (.n .i64 i))(hj:i=(j:Int))(hn:es.length=n)
  (hlt:j<n) (hel:es[j]?=some el) (hz:Nat.beq el.length te.size=true) (ht:Nat.blt t σ.nt=true) (hK:K (σ.put t (.pd el 0))):QOk X o σ K:=by
 unfold Ju at hT
 split at hT
 ·rename_i ti _
  unfold Qcu at hT
  split at hT
  ·rename_i hde
   injection hT with hT
   subst hT
   exact Quh (ti:=ti) (te:=te) hde ho hd hx hy (by omega) (by rw[hj];exact hel) hz ht hK
  ·cases hT
 ·cases hT
def nth{α:Type}[Inhabited α](l:List α)(j:Nat):α:=l.getD j default
theorem Z5{α β:Type}[Inhabited α]{f:α->β}{l:List α}{j:Nat}(h:j<l.length):(l.map f)[j]?=some (f (nth l j)):=by
 simp[nth,List.getD,h]
end

def lenE(es:List (List D))(z:Nat):Prop:=∀e∈es,e.length=z
def D.flat1:D->Bool
 | .sl _=>false
 | _=>true
def YT(es:List (List D)):Bool:=es.all fun e=>e.all D.flat1
theorem Jd{e:List D}(h:e.all D.flat1=true):e.all D.flat=true:=by
 rw[XaD]at h ⊢
 intro d hd
 have:=h d hd
 cases d <;> first|rfl|cases this
theorem Yd{es:List (List D)}(h:YT es=true):∀e∈es,e.all D.flat=true:=fun e he=>Jd (by
 unfold YT at h
 rw[XaD]at h
 exact h e he)
theorem QnG{w:World}{es:List (List D)}{u:Value}{F:List Nat}{z:Nat}(h:(D.sl es).rep w u F)(hz:lenE es z) :
  ∃A cap us F',u=.slice A es.length cap/\Rd w z A es.length cap us/\repE w es us F'/\∀b∈F',b∈F:=by
 obtain⟨A,cap,z',us,F',h1,h2,h3,h4,h5,h6,h7⟩:=h
 refine⟨A,cap,us,F',h1,⟨?_,h2,⟨by unfold maxLen at h3;omega,h4⟩,fun hn=>?_⟩,h6,fun b hb=>?_⟩
 ·exact Q6 h6 hz
 ·rcases h7 with ⟨h7,_⟩|⟨h7,b,o,h8,h9,h10,h11⟩
  ·subst h7;simp at hn
  ·exact⟨b,o,h8,h11⟩
 ·rcases h7 with ⟨h7,_⟩|⟨h7,b',o,h8,h9,h10,h11⟩
  ·subst h7
   obtain⟨_,e⟩:=h6
   rw[e]at hb;cases hb
  ·rw[h10];exact Xae _ hb
theorem YM{P:Program}{w:World}(base:Nat)(t ty e:TypeId)(i:TypeInfo)(z:Value)(size bytes:Nat)(ht:P.underlying t=some (.slice e))(hi:P.info? e=some i)(hz:i.zero=some z)
  (hsize:i.size=size) (hby:i.bytes=bytes) (hzs:z.cells.size=size) (hsz:0<size) (v:Value) (n:Nat) (xs:List Value) (hown:w.ownsRow base e size v n xs)
  (A:Option Addr) (m c:Nat) (news:List Value) (hr:Rd w size A m c news) (h1:∀u∈news,u.oneCell'=true) (h63:n+m<=maxLen) (hbytes:((n+m)+(n+m) / 4+192)*bytes<=281474976710656) (hbase:base<=w.heap.size) :
  ∃v' w',(Builtin.append_ #[t,t] ty #[v,.slice A m c]).run P w=.ok v' w'/\w'.ownsRow base e size v' (n+m) (xs++news)/\w.grownBy w' v.ownBlock/\∀b,blk v'=some b->w.heap.size<=b\/blk v=some b:=by
 cases A with
 | none=>
  have hm:m=0:=by
   rcases Nat.eq_zero_or_pos m with h0|h0
   ·exact h0
   ·obtain⟨b,of,e,_⟩:=hr.2.2.2 h0
    cases e
  have hc:=hr.2.2.1.2 rfl
  subst hm;subst hc
  have hnews:news=[]:=XaA (by rw[hr.1,Xbh])
  subst hnews
  exact⟨v,w,run_append_owned_none (P:=P) w base t ty e i size ht hi v n xs hown,by simpa using hown,World.grownBy.refl _ _,fun b hb=>.inr hb⟩
 | some ad=>
  have hnews:∀j u,news[j]?=some u->w.cell? (ad.add j)=some u:=fun j u hu=>by
   have hm:0<m:=by
    have hl:=(List.getElem?_eq_some_iff.1 hu).1
    rw[hr.1]at hl
    exact Nat.pos_of_ne_zero (fun e=>by subst e;simp at hl)
   obtain⟨b,of,e,hc⟩:=hr.2.2.2 hm
   injection e with e
   subst e
   rw[J5]
   exact hc j u hu
  obtain⟨v',w',g1,g2,g3,g4⟩:=run_append_own_wide (P:=P) w base t ty e i z size bytes ht hi hz hsize hby hzs hsz v n xs hown ad m c news hr.1 hnews h1 h63 hbytes hbase
  refine⟨v',w',g1,g2,g3,fun b hb=>?_⟩
  have hmx:n+m<=9223372036854775807:=by unfold maxLen at h63;omega
  subst hsize
  subst hby
  rcases hown.2 with ⟨rfl,rfl⟩|⟨g,cap,cur,rfl,hbg,hg,hnc,hcm,hcs,htake⟩
  ·by_cases hm:m=0
   ·rw[g4.2 ⟨rfl,hm⟩]at hb;cases hb
   ·have hr2:=run_append_nil (P:=P) w t ty e i z ht hi hz ad m c news hr.1 hnews (by omega) (by omega) (by have hb:=hbytes;simp only[XaZ]at hb;exact Xao (XaH _ (by omega)) hb)
    rw[g1]at hr2
    injection hr2 with e1 e2
    rw[e1]at hb
    simp only[blk,Xal]at hb
    exact .inl (XbR hb)
  ·by_cases hroom:n+m<=cap
   ·have hfit:n*i.size+news.length<=cur.size:=by rw[hr.1,hcs,<-XaR];exact XaH _ hroom
    have hr2:=run_append_room (P:=P) w t ty e i ht hi g n cap cur hg ad m c news hr.1 hnews h1 hroom hfit
    rw[g1]at hr2
    injection hr2 with e1 e2
    rw[e1]at hb
    exact .inr hb
   ·have holds:∀j u,xs[j]?=some u->w.cell? ((⟨g,0,none⟩:Addr).add j)=some u:=hown.cells (g:=g) rfl
    have hr2:=run_append_grow (P:=P) w t ty e i z ht hi hz ⟨g,0,none⟩ n cap xs hown.1 holds ad m c news hr.1 hnews (by omega) (by omega) (growslice_fits_wide (by omega) hbytes)
    rw[g1]at hr2
    injection hr2 with e1 e2
    rw[e1]at hb
    simp only[blk,Xal]at hb
    exact .inl (XbR hb)
theorem Zw{n bytes:Nat}(h:n<=1099511627776)(hb:Nat.ble bytes 128=true):(n+n / 4+192)*bytes<=281474976710656:=by
 have h1:bytes<=128:=XaJ hb
 have h2:n+n / 4+192<=1374389534912:=by omega
 exact Xao (Nat.mul_le_mul h2 h1) (by omega)
theorem QfC{w:World}{base e z n:Nat}{v:Value}{us:List Value}(h:w.ownsRow base e z v n us):v.ownBlock=blk v:=by
 obtain⟨A,c,e1,_⟩:=Jx h
 rw[e1]
 cases A <;> rfl

section
variable {X:Cx} {σ:AS} {o:Oper} {K:AS->Prop} {t:Nat}
theorem Qt4{v:AV}(hd:o.dst=some t)(ht:Nat.blt t σ.nt=true)(h:∀a w en,JO X σ a w en->∃u w',(execOp a.eval o).run X.P w=.ok (.value u) w'/\Ext w w'/\v.shows w' en (IM X en w') u)(hK:K (σ.put t v)):OpOk X o σ K:=by
 intro a w hr next Q hn
 obtain⟨en,h1⟩:=hr
 obtain⟨u,w',h2,h3,h4⟩:=h a w en h1
 unfold Oper.wp
 rw[h2,Oper.upon_value,hd]
 exact hn _ _ _ hK ⟨en,(h1.ext h3).put h4 ht⟩

def AS.low(σ:AS):Option Operand->Option Int
 | none=>some 0
 | some x=>match σ.ev x with
  | .d (.n .i64 p)=>some p
  | _=>none
def AS.high(σ:AS)(n:Nat):Option Operand->Option Int
 | none=>some n
 | some x=>match σ.ev x with
  | .d (.n .i64 p)=>some p
  | _=>none
theorem Qgs{a:Act}{w:World}{en:List Ent}(h:JO X σ a w en){lo:Option Operand}{i:Nat}(hl:σ.low lo=some (i:Int)):(lo.map a.eval=none/\i=0)\/lo.map a.eval=some (.int .i64 i):=by
 cases lo with
 | none=>
  simp only[AS.low,Xal]at hl
  exact .inl ⟨rfl,by omega⟩
 | some x=>
  simp only[AS.low]at hl
  split at hl
  ·rename_i p hx
   injection hl with hl
   subst hl
   obtain⟨F,⟨e,_⟩,_⟩:=QP h hx
   exact .inr (by simp[e])
  ·cases hl
theorem QcC{a:Act}{w:World}{en:List Ent}(h:JO X σ a w en){lo:Option Operand}{n i:Nat}(hl:σ.high n lo=some (i:Int)):(lo.map a.eval=none/\i=n)\/lo.map a.eval=some (.int .i64 i):=by
 cases lo with
 | none=>
  simp only[AS.high,Xal]at hl
  exact .inl ⟨rfl,by omega⟩
 | some x=>
  simp only[AS.high]at hl
  split at hl
  ·rename_i p hx
   injection hl with hl
   subst hl
   obtain⟨F,⟨e,_⟩,_⟩:=QP h hx
   exact .inr (by simp[e])
  ·cases hl
theorem Xp{P:Program}{w:World}{isS:Bool}{len cap i j:Nat}{lo hi:Option Value}(hlo:(lo=none/\i=0)\/lo=some (.int .i64 i))(hhi:(hi=none/\j=len)\/hi=some (.int .i64 j))(hij:i<=j)(hj:j<=cap) :
  (Instr.sliceBounds isS len cap lo hi none).run P w=.ok (i,j,cap) w:=by
 have b:∀(x y:Nat) (c:BoundsCode) (w:World),x<=y->(Instr.sliceBound (.int .i64 (x:Int)) y c).run P w=.ok x w:=fun x y c w h=>by
  rw[run_sliceBound w .i64 x y c (by omega) (by omega)];simp
 rcases hlo with ⟨rfl,rfl⟩|rfl <;> rcases hhi with ⟨rfl,rfl⟩|rfl <;> simp[Instr.sliceBounds, *]
end

theorem ZP{w:World}:∀{es:List (List D)} {us:List Value} {F:List Nat},repE w es us F->∀u∈us,u.oneCell'=true:=fun h=>ZU h
structure Vg {P:Program} {e:TypeId} (te:TI P e):Prop where
 pos:Nat.blt 0 te.size=true
 zero:Nat.beq te.zero.cells.size te.size=true
 bytes:Nat.ble te.bytes 128=true
section
variable {X:Cx} {σ:AS} {o:Oper} {K:AS->Prop} {t:Nat}
def notN(p:Nat):Nat->Bool:=fun n=>!Nat.beq n p
theorem Qjo{p n:Nat}(h:n≠p):notN p n=true:=by
 unfold notN
 cases hb:Nat.beq n p with
 | false=>rfl
 | true=>exact absurd ((Qg n p).1 hb) h
theorem VO(p:Nat):notN p p=false:=by unfold notN;rw[(Qg p p).2 rfl];rfl
theorem Qbz{ao:AO}{v:AV}(hd:o.dst=some t)(ht:Nat.blt t σ.nt=true)(hf:Yz X.fre t σ.ob=true)
  (h:∀a w en,JO X σ a w en->∃(u:Value) (fs:List Nat) (w':World),(execOp a.eval o).run X.P w=.ok (.value u) w'/\Ext w w'/\
   (∀en',(⟨t,ao,u,fs⟩:Ent)∈en'->v.shows w' en' (IM X en' w') u)/\(∀b,blk u=some b->w.heap.size<=b)/\
   ((∀(b:Nat),Imm X.w0 X.Z X.O en w b->Imm X.w0 X.Z X.O (⟨t,ao,u,fs⟩::JC (fun _=>true) t en) w' b)->
    (∀(y:AV) (q:Value),y.shows w en (IM X en w) q->y.shows w' (⟨t,ao,u,fs⟩::JC (fun _=>true) t en) (IM X (⟨t,ao,u,fs⟩::JC (fun _=>true) t en) w') q)->
    EntOk X.P (Frs X.w0 X.O) w' (⟨t,ao,u,fs⟩::JC (fun _=>true) t en) (IM X (⟨t,ao,u,fs⟩::JC (fun _=>true) t en) w') ⟨t,ao,u,fs⟩)/\
   (ao.deep=true->fs=[]))
  (hK:K ⟨σ.nt,(t,v)::σ.sl,(t,ao)::YB t σ.ob⟩):OpOk X o σ K:=by
 intro a w hr next Q hn
 obtain⟨en,h1⟩:=hr
 obtain⟨u,fs,w',h2,hx,h3,h4,h5,h6⟩:=h a w en h1
 have hno:∀x∈en,x.nm≠t:=fun x hx e=>by
  have:hasN t σ.ob=true:=Q9.2 ⟨x.key,h1.ob.mem_iff.1 (Xad.2 ⟨x,hx,rfl⟩),e⟩
  rw[(Q0 hf).1]at this;cases this
 have hs:Qef X.P X.w0 X.Z X.O en w w' t ⟨t,ao,u,fs⟩ (fun _=>true):=
  ⟨h1.mem,fun _ _=>rfl,fun _ x hx e=>absurd e (hno x hx),hx.os,hx.tape,hx.output,hx.size,fun b hb _=>hx.block b hb,fun b hb=>by
   rcases hb with hb|⟨hd,hb⟩
   ·exact .inl (h4 b hb)
   ·exact absurd hb (by rw[h6 hd];simp),rfl,X.Z.lo _ _ (Q0 hf).2⟩
 have h7:=h1.swap_keep hs (h5 (fun b hb=>hs.imm hb) (fun y q hy=>by have:=hs.shows hy;rwa [AV.cut_true]at this)) (fun hd y hy _ hdy b hb=>absurd hb (by rw[show(⟨t,ao,u,fs⟩:Ent).fs=[] from h6 hd];simp))
 unfold Oper.wp
 rw[h2,Oper.upon_value,hd]
 exact hn _ _ _ hK ⟨_,h7.put (h3 _ Xaa) ht⟩
def QiF(size:Nat):List AV->List (Nat×AV)->Option (List AV)
 | cs,[]=>some cs
 | cs,(i,v)::rest=>match v.cellsV with
  | some xs=>bif Nat.beq xs.length size then(bif Nat.ble (i*size+size) cs.length then Vj (splice cs (i*size) xs) (fun cs'=>QiF size cs' rest)else none)else none
  | none=>none
theorem QbE{α:Type}{xs ys:List α}{k:Nat}(h:k+ys.length<=xs.length)(j:Nat):(splice xs k ys)[j]?=if k<=j/\j<k+ys.length then ys[j-k]? else xs[j]?:=by
 unfold splice
 have hk:(xs.take k).length=k:=by simp;omega
 by_cases h1:j<k
 ·rw[if_neg (by omega),Xaq,List.getElem?_append_left (by omega),List.getElem?_take,if_pos h1]
 ·rw[Xaq,List.getElem?_append_right (by omega),hk]
  by_cases h2:j<k+ys.length
  ·rw[if_pos ⟨by omega,h2⟩,List.getElem?_append_left (by omega)]
  ·rw[if_neg (by omega),List.getElem?_append_right (by omega),List.getElem?_drop]
   congr 1
   omega
theorem QbK(off:Nat)(l:List Value)(cs:Array Value)(s:Nat)(h:off+s+l.length<=cs.size) :
  ((l.zipIdx s).foldl (fun cs (x:Value×Nat)=>cs.setIfInBounds (off+x.2) x.1) cs).toList=splice cs.toList (off+s) l:=by
 obtain⟨h1,h2⟩:=Great.foldl_set off l s cs
 apply List.ext_getElem?
 intro k
 rw[QbE (by simpa using h),Array.getElem?_toList,Array.getElem?_toList,h2 k]
 by_cases c:off+s<=k/\k<off+s+l.length
 ·rw[if_pos ⟨c.1,c.2,by omega⟩,if_pos c]
  simp
 ·rw[if_neg (fun q=>c ⟨q.1,q.2.1⟩),if_neg c]
  simp
theorem Qcg{w:World}{en:List Ent}{P:Program}{w0:World}{f:Nat->Bool}{Z:ZV f}{O:Nat->Prop}(hm:Mem P w0 Z O en w){size:Nat}:∀{parts:List (Nat×AV)} {vs:List (Nat×Value)} {cs cs':List AV} {cells:Array Value},QiF size cs parts=some cs'->
  Qn w en (Imm w0 Z O en w) cs cells.toList->(∀u∈cells.toList,u.oneCell'=true)->vs.map Prod.fst=parts.map Prod.fst->Qn w en (Imm w0 Z O en w) (parts.map Prod.snd) (vs.map Prod.snd)->
  ∃r,Instr.fill (fun i=>some (i*size,size)) cells vs=some r/\Qn w en (Imm w0 Z O en w) cs' r.toList/\∀u∈r.toList,u.oneCell'=true
 | [],vs,cs,cs',cells,hf,hc,h1,hv,_=>by
  injection hf with hf
  subst hf
  obtain rfl:vs=[]:=by simpa using hv
  exact⟨cells,rfl,hc,h1⟩
 | (i,x)::parts,vs,cs,cs',cells,hf,hc,h1,hv,hs=>by
  simp only[QiF]at hf
  match vs,hv,hs with
  | (i',v)::vs,hv,hs=>
   simp only[Xaw,Xbw]at hv
   obtain⟨rfl,hv2⟩:=hv
   obtain⟨u,us',e0,h2,h3⟩:=hs
   simp only[Xaw,Xbw]at e0
   obtain⟨rfl,rfl⟩:=e0
   split at hf
   ·rename_i xs hx
    cases b1:Nat.beq xs.length size with
    | false=>rw[b1]at hf;cases hf
    | true=>
     cases b2:Nat.ble (i'*size+size) cs.length with
     | false=>rw[b1,b2]at hf;cases hf
     | true=>
      rw[b1,b2]at hf
      simp only[cond_true,Yu]at hf
      obtain⟨h4,h5⟩:=Yx hm hx h2
      have hsz:v.cells.size=size:=by rw[<-Xay,QE h4];exact(Qg _ _).1 b1
      have hcl:cells.size=cs.length:=by rw[<-Xay];exact QE hc
      have hfit:i'*size+size<=cells.size:=by rw[hcl];exact XaJ b2
      have hfold:(v.cells.zipIdx.foldl (fun cs (x:Value×Nat)=>cs.setIfInBounds (i'*size+x.2) x.1) cells).toList=splice cells.toList (i'*size) v.cells.toList:=by
       rw[<-Array.foldl_toList,Array.toList_zipIdx]
       have h0:=QbK (i'*size) v.cells.toList cells 0 (by simp;omega)
       rw[XbI]at h0
       exact h0
      have g1:=V2 hc h4 (i'*size)
      rw[<-hfold]at g1
      have g2:∀u∈(v.cells.zipIdx.foldl (fun cs (x:Value×Nat)=>cs.setIfInBounds (i'*size+x.2) x.1) cells).toList,u.oneCell'=true:=by
       rw[hfold]
       intro u hu
       simp only[splice,Xag]at hu
       rcases hu with (hu|hu)|hu
       ·exact h1 u (XaC hu)
       ·exact h5 u hu
       ·exact h1 u (XaK hu)
      obtain⟨r,r1,r2,r3⟩:=Qcg hm hf g1 g2 hv2 h3
      refine⟨r,?_,r2,r3⟩
      unfold Instr.fill
      simp only[hsz]
      rw[if_neg (by simp;omega)]
      exact r1
   ·cases hf
def YP:List AV->Option (List D)
 | []=>some []
 | .d x::l=>match YP l with
  | some ds=>some (x::ds)
  | none=>none
 | .nil::l=>match YP l with
  | some ds=>some (.sl []::ds)
  | none=>none
 | _::_=>none
theorem Yn{w:World}{en:List Ent}{I:Nat->Prop}:∀{xs:List AV} {ds:List D} {us:List Value},YP xs=some ds->Qn w en I xs us->∃F,repL w ds us F/\∀b∈F,I b
 | [],ds,us,h,hs=>by
  injection h with h;subst h
  exact⟨[],⟨hs,rfl⟩,by simp⟩
 | x::xs,ds,us,h,hs=>by
  obtain⟨u,us',rfl,h1,h2⟩:=hs
  cases x with
  | d y=>
   simp only[YP]at h
   split at h
   ·rename_i ds' hd
    injection h with h;subst h
    obtain⟨F2,k1,k2⟩:=Yn hd h2
    obtain⟨F1,k3,k4⟩:=h1
    exact⟨F1++F2,⟨u,us',F1,F2,rfl,rfl,k3,k1⟩,fun b hb=>(Xag.1 hb).elim (k4 b) (k2 b)⟩
   ·cases h
  | nil=>
   simp only[YP]at h
   split at h
   ·rename_i ds' hd
    injection h with h;subst h
    obtain⟨F2,k1,k2⟩:=Yn hd h2
    refine⟨F2,⟨u,us',[],F2,rfl,rfl,?_,k1⟩,k2⟩
    rw[show u=.slice none 0 0 from h1]
    exact⟨none,0,0,[],[],rfl,Xam _,Xab _,fun _=>rfl,by simp,⟨rfl,rfl⟩,.inl ⟨rfl,rfl⟩⟩
   ·cases h
  | _=>cases h
theorem Vo:∀{cs:List AV} {ds:List D},YP cs=some ds->cs.length=ds.length
 | [],ds,h=>by injection h with h;subst h;rfl
 | x::cs,ds,h=>by
  cases x with
  | d y=>
   simp only[YP]at h
   split at h
   ·rename_i ds' hd
    injection h with h;subst h
    simp[Vo hd]
   ·cases h
  | nil=>
   simp only[YP]at h
   split at h
   ·rename_i ds' hd
    injection h with h;subst h
    simp[Vo hd]
   ·cases h
  | _=>cases h
def chunk(z:Nat):Nat->List D->List (List D)
 | 0,_=>[]
 | n+1,l=>l.take z::chunk z n (l.drop z)
theorem Qb9{w:World}{z:Nat}:∀{n:Nat} {ds:List D} {us:List Value} {F:List Nat},ds.length=n*z->repL w ds us F->repE w (chunk z n ds) us F/\lenE (chunk z n ds) z/\(chunk z n ds).length=n
 | 0,ds,us,F,hl,h=>by
  have:ds=[]:=XaA (by simpa using hl)
  subst this
  exact⟨h,(fun e he=>by cases he),rfl⟩
 | n+1,ds,us,F,hl,h=>by
  rw[XaR,XbS]at hl
  rw[<-XaO z ds]at h
  obtain⟨u1,u2,F1,F2,rfl,rfl,k1,k2⟩:=Qbt h
  obtain⟨g1,g2,g3⟩:=Qb9 (z:=z) (n:=n) (by simp;omega) k2
  refine⟨⟨u1,u2,F1,F2,rfl,rfl,k1,g1⟩,fun e he=>?_,by simp[chunk,g3]⟩
  rcases Xaj.1 he with rfl|he
  ·simp;omega
  ·exact g2 e he
def Zi{α:Type}:List D->(List D->Option α)->Option α
 | [],k=>k []
 | x::xs,k=>match x with
  | .n t v=>Zi xs fun ys=>k (.n t v::ys)
  | .b v=>Zi xs fun ys=>k (.b v::ys)
  | .s v=>Zi xs fun ys=>k (.s v::ys)
  | .sl v=>Zi xs fun ys=>k (.sl v::ys)
  | .un=>Zi xs fun ys=>k (.un::ys)
theorem ZX{α:Type}:∀(xs:List D) (k:List D->Option α),Zi xs k=k xs
 | [],k=>rfl
 | x::xs,k=>by cases x <;> rw[Zi,ZX xs]
def Qc1{α:Type}:List (List D)->(List (List D)->Option α)->Option α
 | [],k=>k []
 | e::es,k=>Zi e fun e'=>Qc1 es fun es'=>k (e'::es')
theorem Qau{α:Type}:∀(es:List (List D)) (k:List (List D)->Option α),Qc1 es k=k es
 | [],k=>rfl
 | e::es,k=>by rw[Qc1,ZX,Qau es]
def AS.evParts(σ:AS):List (Nat×Operand)->List (Nat×AV)
 | []=>[]
 | (i,x)::l=>(i,σ.ev x)::σ.evParts l
theorem VH{a:Act}{w:World}{en:List Ent}(h:JO X σ a w en):∀(l:List (Nat×Operand)),(l.map fun x=>(x.1,a.eval x.2)).map Prod.fst=(σ.evParts l).map Prod.fst/\Qn w en (IM X en w) ((σ.evParts l).map Prod.snd) ((l.map fun x=>(x.1,a.eval x.2)).map Prod.snd)
 | []=>⟨rfl,rfl⟩
 | (i,x)::l=>by
  obtain⟨h1,h2⟩:=VH h l
  refine⟨by simp only[AS.evParts,Xaw,h1],_,_,rfl,AS.ev_shows h x,h2⟩
def QeQ(z:Value):Nat->List AV
 | 0=>[]
 | n+1=>W0 z++QeQ z n
theorem Xa{w:World}{en:List Ent}{I:Nat->Prop}(z:Value):∀(n:Nat),Qn w en I (QeQ z n) (List.replicate n z.cells.toList).flatten
 | 0=>rfl
 | n+1=>by
  rw[List.replicate_succ,XbK]
  exact J2 (Yq _) (Xa z n)
theorem QcH{z:Value}(h:z.cells.toList.all Value.oneCell'=true):∀(n:Nat),∀u∈(List.replicate n z.cells.toList).flatten,u.oneCell'=true:=by
 intro n u hu
 rw[List.mem_flatten]at hu
 obtain⟨l,hl,hu⟩:=hu
 rw[Xbn hl]at hu
 exact XaD.1 h u hu
end

theorem Ye{w:World}{e:List D}{us:List Value}(h:repL w e us []):∀(n:Nat),repE w (List.replicate n e) (List.replicate n us).flatten []
 | 0=>⟨rfl,rfl⟩
 | n+1=>⟨us,(List.replicate n us).flatten,[],[],rfl,rfl,h,Ye h n⟩
section
variable {X:Cx} {σ:AS} {o:Oper} {K:AS->Prop} {t:Nat}
theorem XO{α:Type}{u1 u2 ys:List α}{k:Nat}(h:k+ys.length<=u1.length):splice (u1++u2) k ys=splice u1 k ys++u2:=by
 unfold splice
 rw[Xa8 (by omega),XbG h,Xaq,Xaq,Xaq]
theorem ZI{α:Type}{u1 u2 ys:List α}{k:Nat}:splice (u1++u2) (u1.length+k) ys=u1++splice u2 k ys:=by
 unfold splice
 rw[XbW,XbD,List.drop_length_add_append,Xaq,Xaq,Xaq]
theorem QU{α:Type}{xs ys:List α}{k:Nat}(h:k+ys.length<=xs.length):(splice xs k ys).length=xs.length:=by
 unfold splice
 simp only[Xac,Xai,XaN]
 omega
theorem V6{α:Type}{xs ys:List α}{k n:Nat}(h:k+ys.length<=n):(splice xs k ys).take n=splice (xs.take n) k ys:=by
 unfold splice
 apply List.ext_getElem?
 intro j
 simp only[Xaq,List.getElem?_take,List.getElem?_append,Xai,List.getElem?_drop]
 by_cases h1:j<n
 ·rw[if_pos h1]
  by_cases hx:n<=xs.length
  ·have e1:min k (min n xs.length)=min k xs.length:=by omega
   rw[e1]
   repeat' split
   all_goals first|rfl|omega|(congr 1;omega)
  ·have e1:min k (min n xs.length)=min k xs.length:=by omega
   rw[e1]
   repeat' split
   all_goals first|rfl|omega|(congr 1;omega)|(rw[List.getElem?_eq_none (by omega)])
 ·rw[if_neg h1]
  repeat' split
  all_goals first|rfl|omega
theorem QaU{w:World}:∀{ds:List D} {us:List Value} {F:List Nat},repL w ds us F->∀k,∃G,repL w (ds.take k) (us.take k) G/\∀b∈G,b∈F
 | [],us,F,h,k=>by obtain⟨rfl,rfl⟩:=h;exact⟨[],by simp[repL],by simp⟩
 | d::ds,us,F,h,k=>by
  cases k with
  | zero=>exact⟨[],by simp[repL],by simp⟩
  | succ k=>
   obtain⟨u,us',F1,F2,rfl,rfl,h1,h2⟩:=h
   obtain⟨G,h3,h4⟩:=QaU h2 k
   refine⟨F1++G,⟨u,us'.take k,F1,G,by simp,rfl,h1,h3⟩,fun b hb=>?_⟩
   rcases Xag.1 hb with hb|hb
   ·exact Xat _ hb
   ·exact Xav _ (h4 b hb)
theorem Xh{G:List Nat}(h:∀b∈G,b∈([]:List Nat)):G=[]:=by
 cases G with
 | nil=>rfl
 | cons a l=>have:=h a Xaa;cases this
theorem Qim{w:World}{ds el:List D}{us vs:List Value}(h:repL w el us [])(h':repL w ds vs [])(k:Nat):repL w (splice el k ds) (splice us k vs) []:=by
 have hl:=QA h'
 unfold splice
 obtain⟨G1,h1,g1⟩:=QaU h k
 obtain⟨G2,h2,g2⟩:=VT h (k+ds.length)
 have:=Xh g1;subst this
 have:=Xh g2;subst this
 rw[hl]
 have:=JE (JE h1 h') h2
 simpa using this
theorem QjE{w:World}{z:Nat}:∀{es:List (List D)} {us:List Value} {F:List Nat} {i off:Nat} {el ds:List D} {vs:List Value},repE w es us F->(∀e∈es,e.length=z)->es[i]?=some el->el.all D.flat=true->repL w ds vs []->off+ds.length<=z->
  repE w (es.set i (splice el off ds)) (splice us (i*z+off) vs) F
 | [],us,F,i,off,el,ds,vs,_,_,hi,_,_,_=>by simp at hi
 | e::es,us,F,i,off,el,ds,vs,h,hz,hi,hfl,h',hle=>by
  obtain⟨u1,u2,F1,F2,rfl,rfl,k1,k2⟩:=h
  have hl1:u1.length=z:=by rw[QA k1];exact hz e Xaa
  have hvl:=QA h'
  cases i with
  | zero=>
   simp only[List.getElem?_cons_zero,Xal]at hi
   subst hi
   have hF1:=Jw k1 hfl
   subst hF1
   rw[Xbt,Xbh,XaZ,XO (by omega)]
   exact⟨_,_,[],F2,rfl,rfl,Qim k1 h' off,k2⟩
  | succ i=>
   simp only[List.getElem?_cons_succ]at hi
   have e1:(i+1)*z+off=u1.length+(i*z+off):=by rw[hl1,XaR];omega
   rw[XbV,e1,ZI]
   exact⟨_,_,F1,F2,rfl,rfl,k1,QjE k2 (fun x hx=>hz x (Xae _ hx)) hi hfl h' hle⟩
theorem NstL.setA{P:Program}{w:World}{z i off:Nat}{es:List (List D)}{us vs:List Value}{el ds:List D}(h:NstL P w es.flatten us)(hul:us.length=es.length*z)(hz:∀e∈es,e.length=z)(hel:es[i]?=some el)(hfe:el.all D.flat=true)(hfd:NstL P w ds vs)(hvl:vs.length=ds.length)(hle:off+ds.length<=z) :
  NstL P w (es.set i (splice el off ds)).flatten (splice us (i*z+off) vs):=fun j q u hj hu hne=>by
 have hilt:=(List.getElem?_eq_some_iff.1 hel).1
 have hels:el.length=z:=hz el (List.mem_of_getElem? hel)
 have hz':∀e∈es.set i (splice el off ds),e.length=z:=fun e he=>by
  rcases Xbl he with he|rfl
  ·exact hz e he
  ·rw[QU (by omega)];exact hels
 have hin:i*z+z<=es.length*z:=by
  have:(i+1)*z<=es.length*z:=XaH _ (by omega)
  rwa [XaR,XbS]at this
 by_cases hz0:z=0
 ·have h0:us.length=0:=by rw[hul,hz0,Nat.mul_zero]
  have h1:(splice us (i*z+off) vs).length=us.length:=QU (by omega)
  have:=(List.getElem?_eq_some_iff.1 hu).1
  omega
 have hz0:0<z:=by omega
 rw[Qdj hz0 hz']at hj
 rw[QbE (by omega)]at hu
 by_cases hji:j / z=i
 ·rw[hji,List.getElem?_set_self hilt,Xbd,QbE (by omega)]at hj
  have hmod:=Nat.div_add_mod j z
  rw[hji,Xcj]at hmod
  by_cases hin2:off<=j % z/\j % z<off+ds.length
  ·rw[if_pos hin2]at hj
   rw[if_pos (by omega),show j-(i*z+off)=j % z-off by omega]at hu
   exact hfd _ q u hj hu hne
  ·rw[if_neg hin2]at hj
   have h2:(D.sl q).flat=true:=XaD.1 hfe _ (List.mem_of_getElem? hj)
   exact absurd (by simpa [D.flat] using h2) hne
 ·rw[List.getElem?_set_ne (fun e=>hji e.symm),<-Qdj hz0 hz]at hj
  refine h j q u hj ?_ hne
  rw[if_neg]at hu
  ·exact hu
  ·intro⟨h1,h2⟩
   apply hji
   have e1:i*z<=j:=by omega
   have e2:j<(i+1)*z:=by rw[XaR,XbS];omega
   exact Nat.div_eq_of_lt_le e1 e2
theorem NstL.flat{P:Program}{w:World}{ds:List D}{us:List Value}(h:ds.all D.flat=true):NstL P w ds us:=fun j es u hj _ hne=>by
 have h2:=XaD.1 h _ (List.mem_of_getElem? hj)
 exact absurd (by simpa [D.flat] using h2) hne
theorem NstL.set{P:Program}{w:World}{z i off:Nat}{es:List (List D)}{us vs:List Value}{el ds:List D}(h:NstL P w es.flatten us)(hul:us.length=es.length*z)(hz:∀e∈es,e.length=z)(hel:es[i]?=some el)(hfe:el.all D.flat=true)(hfd:ds.all D.flat=true)(hvl:vs.length=ds.length)(hle:off+ds.length<=z) :
  NstL P w (es.set i (splice el off ds)).flatten (splice us (i*z+off) vs):=h.setA hul hz hel hfe (.flat hfd) hvl hle
theorem QuD{x:Operand}{p i off:Nat}{e:TypeId}{es:List (List D)}{dp:Bool}{el:List D}(hx:σ.ev x=.pr p i off)(hp:Qm σ.ob p=some (.row e es dp))(hel:es[i]?=some el)(hfl:(bif dp then el.all D.flat else true)=true):σ.at (σ.ev x)=some ((el.drop off).map AV.d):=by
 rw[hx]
 simp only[AS.at,hp,hel,hfl,cond_true]
end

mutual
def AV.frz(p:Nat)(es:List (List D)):AV->AV
 | .row o=>bif Nat.beq o p then .d (.sl es)else .row o
 | .pr o i off=>bif Nat.beq o p then .any else .pr o i off
 | .ptr o off=>bif Nat.beq o p then .any else .ptr o off
 | .agg xs=>.agg (frzL p es xs)
 | .tup xs=>.tup (frzL p es xs)
 | .clo g xs=>.clo g (frzL p es xs)
 | .sub o i j=>bif Nat.beq o p then .d (.sl ((es.take j).drop i))else .sub o i j
 | x=>x
def frzL(p:Nat)(es:List (List D)):List AV->List AV
 | []=>[]
 | x::xs=>x.frz p es::frzL p es xs
end
def AO.frz(p:Nat)(es:List (List D)):AO->AO
 | .box e cs=>.box e (frzL p es cs)
 | x=>x
def AS.frz(σ:AS)(p:Nat)(es:List (List D)):AS:=⟨σ.nt,σ.sl.map fun y=>(y.1,y.2.frz p es),(YB p σ.ob).map fun y=>(y.1,y.2.frz p es)⟩
theorem AO.frz_isRow(p:Nat)(es:List (List D))(x:AO):(x.frz p es).isRow=x.isRow:=by cases x <;> rfl
theorem AO.frz_lens(p:Nat)(es:List (List D))(x:AO):(x.frz p es).lens=x.lens:=by cases x <;> rfl
theorem AO.frz_deep(p:Nat)(es:List (List D))(x:AO):(x.frz p es).deep=x.deep:=by cases x <;> rfl
theorem QbX{a b:Nat}(h:a≠b):Nat.beq a b=false:=by
 cases hb:Nat.beq a b with
 | false=>rfl
 | true=>exact absurd ((Qg a b).1 hb) h
section
variable {w:World} {en en':List Ent} {I I':Nat->Prop} {p:Nat} {es:List (List D)}
mutual
theorem AV.shows_frz(hI:∀b,I b->I' b)(hp:∀x∈en,x.nm=p->∃F,(D.sl es).rep w x.val F/\∀b∈F,I' b)(hpl:∀x∈en,x.nm=p->x.ao.lens=es.map List.length)(he:∀x∈en,x.nm≠p->∃y∈en',Like x y):∀(x:AV) (u:Value),x.shows w en I u->(x.frz p es).shows w en' I' u
 | .any,_,_=>trivial
 | .d x,u,h=>by
  obtain⟨F,h1,h2⟩:=h
  exact⟨F,h1,fun b hb=>hI b (h2 b hb)⟩
 | .nil,_,h=>h
 | .row o,u,h=>by
  obtain⟨x,hx,rfl,h1,rfl⟩:=h
  simp only[AV.frz]
  by_cases ho:x.nm=p
  ·rw[(Qg _ _).2 ho]
   exact hp x hx ho
  ·rw[QbX ho]
   obtain⟨y,hy,l1,l2,l3,l4⟩:=he x hx ho
   exact⟨y,hy,l1,by rw[l3];exact h1,l2.symm⟩
 | .ptr o off,u,h=>by
  obtain⟨x,hx,rfl,h1,g,h2,h3⟩:=h
  simp only[AV.frz]
  by_cases ho:x.nm=p
  ·rw[(Qg _ _).2 ho]
   trivial
  ·rw[QbX ho]
   obtain⟨y,hy,l1,l2,l3,l4⟩:=he x hx ho
   exact⟨y,hy,l1,by rw[l3];exact h1,g,by rw[l2];exact h2,h3⟩
 | .pr o i off,u,h=>by
  obtain⟨x,hx,rfl,h1,g,z,h2,h3,h4,h5⟩:=h
  simp only[AV.frz]
  by_cases ho:x.nm=p
  ·rw[(Qg _ _).2 ho]
   trivial
  ·rw[QbX ho]
   obtain⟨y,hy,l1,l2,l3,l4⟩:=he x hx ho
   exact⟨y,hy,l1,by rw[l3];exact h1,g,z,by rw[l2];exact h2,by rw[l4];exact h3,by rw[l4];exact h4,h5⟩
 | .pd e off,u,h=>by
  obtain⟨b,o,us,F,h1,h2,h3,h4,h5⟩:=h
  exact⟨b,o,us,F,h1,h2,h3,hI b h4,fun c hc=>hI c (h5 c hc)⟩
 | .agg xs,u,h=>by
  obtain⟨us,h1,h2⟩:=h
  exact⟨us,h1,VK hI hp hpl he xs us h2⟩
 | .tup xs,u,h=>by
  obtain⟨us,h1,h2⟩:=h
  exact⟨us,h1,VK hI hp hpl he xs us h2⟩
 | .clo g xs,u,h=>by
  obtain⟨us,h1,h2⟩:=h
  exact⟨us,h1,VK hI hp hpl he xs us h2⟩
 | .sub o i j,u,h=>by
  obtain⟨x,hx,rfl,h1,h2,A,n,c,z,h3,h4,rfl⟩:=h
  simp only[AV.frz]
  by_cases ho:x.nm=p
  ·rw[(Qg _ _).2 ho]
   obtain⟨F,f1,f2⟩:=hp x hx ho
   have hes:=hpl x hx ho
   rw[h3]at f1
   obtain⟨F',f3,f4⟩:=QmA (z:=z) (i:=i) (j:=j) f1 (fun e he=>h4 e.length (by rw[hes];exact Xad.2 ⟨e,he,rfl⟩)) h2.1 (by rw[hes,Xah]at h2;exact h2.2)
   exact⟨F',f3,fun b hb=>f2 b (f4 b hb)⟩
  ·rw[QbX ho]
   obtain⟨y,hy,l1,l2,l3,l4⟩:=he x hx ho
   exact⟨y,hy,l1,by rw[l3];exact h1,by rw[l4];exact h2,A,n,c,z,by rw[l2];exact h3,by rw[l4];exact h4,rfl⟩
theorem VK(hI:∀b,I b->I' b)(hp:∀x∈en,x.nm=p->∃F,(D.sl es).rep w x.val F/\∀b∈F,I' b)(hpl:∀x∈en,x.nm=p->x.ao.lens=es.map List.length)(he:∀x∈en,x.nm≠p->∃y∈en',Like x y):∀(xs:List AV) (us:List Value),Qn w en I xs us->Qn w en' I' (frzL p es xs) us
 | [],_,h=>h
 | x::xs,us,h=>by
  obtain⟨u,us',h1,h2,h3⟩:=h
  exact⟨u,us',h1,AV.shows_frz hI hp hpl he x u h2,VK hI hp hpl he xs us' h3⟩
end
end
theorem QjO(p:Nat)(es:List (List D)):∀(sl:List (Nat×AV)) (t:Nat),look (sl.map fun y=>(y.1,y.2.frz p es)) t=(look sl t).frz p es
 | [],_=>rfl
 | (k,x)::l,t=>by
  rw[Xaw,QM,QM,QjO p es l t]
  split <;> rfl
theorem JO.frz{X:Cx}{σ:AS}{a:Act}{w:World}{en:List Ent}(h:JO X σ a w en){p:Nat}{e:TypeId}{es:List (List D)}{dp:Bool}(hp:Qm σ.ob p=some (.row e es dp)) :
  JO X (σ.frz p es) a w ((en.filter fun y=>y.nm != p).map fun y=>{ y with ao:=y.ao.frz p es }):=by
 have m:=h.mem
 let g:Ent->Ent:=fun y=>{ y with ao:=y.ao.frz p es }
 have hmem:∀{y:Ent},y∈(en.filter fun y=>y.nm != p).map g->∃z∈en,z.nm≠p/\y=g z:=by
  intro y hy
  simp only[Xad,XaF,bne_iff_ne]at hy
  obtain⟨z,⟨h1,h2⟩,rfl⟩:=hy
  exact⟨z,h1,h2,rfl⟩
 obtain⟨y0,hy0,hy0n,hy0a,F0,hF1,hF2⟩:=QaG h hp
 have hgd:∀(z:Ent) (b:Nat),(g z).hd b↔z.hd b:=fun z b=>by
  unfold Ent.hd
  rw[show(g z).ao.deep=z.ao.deep from AO.frz_deep p es z.ao]
  try exact Iff.rfl
 have hI:∀b,Imm X.w0 X.Z X.O en w b->Imm X.w0 X.Z X.O ((en.filter fun y=>y.nm != p).map g) w b:=fun b hb=>⟨hb.1,hb.2.1,fun y hy=>by
  obtain⟨z,hz,_,rfl⟩:=hmem hy
  exact fun h=>hb.2.2 z hz ((hgd z b).1 h)⟩
 have hpx:∀x∈en,x.nm=p->∃F,(D.sl es).rep w x.val F/\∀b∈F,Imm X.w0 X.Z X.O ((en.filter fun y=>y.nm != p).map g) w b:=fun x hx hn=>by
  have:=m.ent_unique hx hy0 (hn.trans hy0n.symm)
  subst this
  refine⟨F0,hF1,fun b hb=>?_⟩
  rcases hF2 b hb with h1|h1
  ·have hok:=m.ok x hx
   unfold EntOk at hok
   rw[hy0a]at hok
   obtain⟨_,_,_,_,_,_,_,k5,_,k7⟩:=hok
   cases dp with
   | false=>exact hI b (k5 rfl b h1)
   | true=>
    refine⟨.inr ((k7 rfl).2.1 b h1).1,((k7 rfl).2.1 b h1).2.1,fun y hy=>?_⟩
    obtain⟨z,hz,hzn,rfl⟩:=hmem hy
    exact fun hq=>m.hd_ne hx hz (fun e=>hzn (e.symm.trans hn)) (.inr ⟨by rw[hy0a];rfl,h1⟩) ((hgd z b).1 hq)
  ·obtain⟨l1,l2⟩:=(m.ok x hx).lt h1
   refine⟨.inr l2,l1,fun y hy=>?_⟩
   obtain⟨z,hz,hzn,rfl⟩:=hmem hy
   exact fun hq=>m.hd_ne hx hz (fun e=>hzn (e.symm.trans hn)) (.inl h1) ((hgd z b).1 hq)
 have hpl:∀x∈en,x.nm=p->x.ao.lens=es.map List.length:=fun x hx hn=>by
  have:=m.ent_unique hx hy0 (hn.trans hy0n.symm)
  subst this
  rw[hy0a];rfl
 have hl:∀x∈en,x.nm≠p->∃y∈(en.filter fun y=>y.nm != p).map g,Like x y:=fun x hx hn=>
  ⟨g x,by simp only[Xad,XaF,bne_iff_ne];exact⟨x,⟨hx,hn⟩,rfl⟩,rfl,rfl,AO.frz_isRow p es x.ao,AO.frz_lens p es x.ao⟩
 refine⟨⟨m.os,m.tape,m.output,m.size,m.old,?_,?_,?_,?_,fun y hy=>by
  obtain⟨z,hz,_,rfl⟩:=hmem hy
  exact m.fix z hz⟩,?_,h.defers,h.size,fun t=>?_⟩
 ·have:((en.filter fun y=>y.nm != p).map g).map Ent.nm=(en.filter fun y=>y.nm != p).map Ent.nm:=by simp only[XaS];rfl
  rw[this]
  exact Xbs (XbF _ XaE) m.names
 ·exact XaW _ (fun x y hxy b h1 h2=>hxy b ((hgd x b).1 h1) ((hgd y b).1 h2)) (Xa0 XaE m.blks)
 ·intro y hy
  obtain⟨z,hz,hzn,rfl⟩:=hmem hy
  have hok:=m.ok z hz
  unfold EntOk at hok
  split at hok
  ·rename_i e' es' dp' hao
   obtain⟨s,us,k0,k1,k2,k3,k4,k5,k6,k7⟩:=hok
   unfold EntOk
   simp only[g,hao,AO.frz]
   exact⟨s,us,k0,k1,k2,k3,k4,fun hd b hb=>hI b (k5 hd b hb),k6,k7⟩
  ·rename_i e' cs hao
   obtain⟨k0,q,cur,k1,k2,k3,k4⟩:=hok
   unfold EntOk
   simp only[g,hao,AO.frz]
   exact⟨k0,q,cur,k1,k2,k3,VK hI hpx hpl hl cs _ k4⟩
 ·refine XaW _ (fun x y hxy h1 h2=>?_) (Xa0 XaE m.apart)
  exact hxy (by rw[<-AO.frz_deep p es];exact h1) (by rw[<-AO.frz_deep p es];exact h2)
 ·have e1:((en.filter fun y=>y.nm != p).map g).map Ent.key=((en.map Ent.key).filter fun y=>y.1 != p).map fun y=>(y.1,y.2.frz p es):=by
   simp only[XaS,XbO]
   rfl
  show(((en.filter fun y=>y.nm != p).map g).map Ent.key).Perm ((YB p σ.ob).map fun y=>(y.1,y.2.frz p es))
  rw[e1]
  exact(h.ob.filter _).map _
 ·simp only[AS.frz,QjO]
  exact AV.shows_frz hI hpx hpl hl _ _ (h.slots t)
section
variable {X:Cx} {σ:AS} {o:Oper} {K:AS->Prop} {Q:Exit->AS->Prop} {t:Nat}
theorem Qs(p:Nat){e:TypeId}{es:List (List D)}{dp:Bool}{c:Code}(hp:Qm σ.ob p=some (.row e es dp))(h:AWp X c Q (σ.frz p es)):AWp X c Q σ:=fun a w ⟨_,hr⟩=>h a w ⟨_,hr.frz hp⟩

def QG(l:List UInt8):List (List D):=l.map fun b=>[.n .u8 (b.toNat:Int)]
theorem Xd(w:World):∀(l:List UInt8),repE w (QG l) (l.map fun(b:UInt8)=>Value.int .u8 (b.toNat:Int)) []
 | []=>⟨rfl,rfl⟩
 | b::l=>⟨[.int .u8 (b.toNat:Int)],l.map fun(b:UInt8)=>Value.int .u8 (b.toNat:Int),[],[],rfl,rfl,⟨.int .u8 (b.toNat:Int),[],[],[],rfl,rfl,⟨rfl,rfl⟩,rfl,rfl⟩,Xd w l⟩
theorem Z4{w:World}:∀{l:List UInt8} {us:List Value} {F:List Nat},repE w (QG l) us F->us=l.map fun b=>.int .u8 (b.toNat:Int)
 | [],us,F,h=>h.1
 | b::l,us,F,h=>by
  obtain⟨u1,u2,F1,F2,rfl,rfl,k1,k2⟩:=h
  obtain⟨u,us',G1,G2,rfl,rfl,⟨rfl,rfl⟩,k3⟩:=k1
  rw[k3.1,Z4 k2]
  rfl
def QuB:TypeDesc->Bool
 | .int .u8=>true
 | _=>false
def Qp4(X:Cx)(T:TypeId):Bool:=match X.tt T with
 | some ti=>QuB ti.desc
 | none=>false
theorem QcS{T:TypeId}(h:Qp4 X T=true):X.P.underlying T=some (.int .u8):=by
 unfold Qp4 at h
 split at h
 ·rename_i ti _
  unfold QuB at h
  split at h
  ·rename_i hde
   exact hde▸ti.und
  ·cases h
 ·cases h
theorem QgS{v:Int}(h:0<=v/\v<=255):[[D.n .u8 v]]=QG [UInt8.ofNat v.toNat]:=by
 have:((UInt8.ofNat v.toNat).toNat:Int)=v:=by simp;omega
 rw[QG,Xaw,Xbb,this]
def intD:TypeDesc->Option IntKind
 | .int k=>some k
 | _=>none
def intT(X:Cx)(T:TypeId):Option IntKind:=match X.tt T with
 | some ti=>intD ti.desc
 | none=>none
def hasT(X:Cx)(T:TypeId):Bool:=match X.tt T with
 | some _=>true
 | none=>false
theorem Qf1{src dst:TypeId}{k k':IntKind}{x:Operand}{p:Int}(ho:o.op=.convert src dst x)(hd:o.dst=some t)(hs:hasT X src=true)(hT:intT X dst=some k')(hx:σ.ev x=.d (.n k p))(ht:Nat.blt t σ.nt=true)(hK:K (σ.put t (.d (.n k' (k'.wrap p))))):QOk X o σ K:=by
 unfold hasT at hs
 split at hs
 ·rename_i ts _
  unfold intT at hT
  split at hT
  ·rename_i td _
   unfold intD at hT
   split at hT
   ·rename_i k'' hde
    injection hT with hT
    subst hT
    exact QtP (td:=td) (ts:=ts) ho hd hx hde rfl ht hK
   ·cases hT
  ·cases hT
 ·cases hs
end
end
section

section
variable {X:Cx} {σ:AS} {o:Oper} {K:AS->Prop} {t:Nat}
theorem Qnc{P:Program}{w:World}{T:TypeId}{d:TypeDesc}(hu:P.underlying T=some d)(ha:JQ d=false){cs:Array Value}{off:Nat}{v:Value}(hv:cs[off]?=some v):(part T cs off).run P w=.ok v w:=by
 have hag:(isAgg T).run P w=.ok false w:=by
  unfold isAgg
  rw[Sem.run_bind,run_underlying hu w]
  cases d <;> simp_all[JQ,Sem.run_pure]
 simp only[part,Sem.run_bind,hag,Result.andThen_ok,XaV,if_false,hv,Sem.run_pure]
theorem Qnx{P:Program}{w:World}{T:TypeId}(ti:TI P T)(ha:JQ ti.desc=true){cs:Array Value}{off:Nat}:(part T cs off).run P w=.ok (.agg ((cs.toList.drop off).take ti.size).toArray) w:=by
 have hag:(isAgg T).run P w=.ok true w:=by
  unfold isAgg
  rw[Sem.run_bind,run_underlying ti.und w]
  cases hde:ti.desc <;> simp_all[JQ,Sem.run_pure]
 obtain⟨i,h1,_,h2,_⟩:=ti.parts
 have e:cs.extract off (off+ti.size)=((cs.toList.drop off).take ti.size).toArray:=by
  apply Array.ext'
  simp
 simp only[part,Sem.run_bind,hag,Result.andThen_ok,if_true,sizeOf,typeInfo,run_program,h1,h2,Sem.run_pure,e]
def QfL(X:Cx):List Field->Option (List (Nat×Nat))
 | []=>some []
 | f::fs=>match X.tt f.type with
  | some tf=>match QfL X fs with
   | some l=>some ((f.offset,tf.size)::l)
   | none=>none
  | none=>none
theorem QeE:∀{fs:List Field} {l:List (Nat×Nat)},QfL X fs=some l->fs.mapM (fun f=>(X.P.info? f.type).map fun i=>(f.offset,i.size))=some l
 | [],l,h=>by injection h with h;subst h;rfl
 | f::fs,l,h=>by
  simp only[QfL]at h
  split at h
  ·rename_i tf _
   split at h
   ·rename_i l' hl
    injection h with h;subst h
    obtain⟨i,h1,_,h2,_⟩:=tf.parts
    simp only[List.mapM_cons,h1,XaT,h2,QeE hl]
    rfl
   ·cases h
  ·cases h
def QpA(places:List (Nat×Nat)):List AV->List (Nat×AV)->Option (List AV)
 | cs,[]=>some cs
 | cs,(i,v)::rest=>match places[i]? with
  | some (off,size)=>match v.cellsV with
   | some xs=>bif Nat.beq xs.length size then(bif Nat.ble (off+size) cs.length then Vj (splice cs off xs) (fun cs'=>QpA places cs' rest)else none)else none
   | none=>none
  | none=>none
theorem Qk2{w:World}{en:List Ent}{P:Program}{w0:World}{f:Nat->Bool}{Z:ZV f}{O:Nat->Prop}(hm:Mem P w0 Z O en w){places:List (Nat×Nat)}:∀{parts:List (Nat×AV)} {vs:List (Nat×Value)} {cs cs':List AV} {cells:Array Value},QpA places cs parts=some cs'->
  Qn w en (Imm w0 Z O en w) cs cells.toList->vs.map Prod.fst=parts.map Prod.fst->Qn w en (Imm w0 Z O en w) (parts.map Prod.snd) (vs.map Prod.snd)->
  ∃r,Instr.fill (places.toArray[·]?) cells vs=some r/\Qn w en (Imm w0 Z O en w) cs' r.toList
 | [],vs,cs,cs',cells,hf,hc,hv,_=>by
  injection hf with hf
  subst hf
  obtain rfl:vs=[]:=by simpa using hv
  exact⟨cells,rfl,hc⟩
 | (i,x)::parts,vs,cs,cs',cells,hf,hc,hv,hs=>by
  simp only[QpA]at hf
  match vs,hv,hs with
  | (i',v)::vs,hv,hs=>
   simp only[Xaw,Xbw]at hv
   obtain⟨rfl,hv2⟩:=hv
   obtain⟨u,us',e0,h2,h3⟩:=hs
   simp only[Xaw,Xbw]at e0
   obtain⟨rfl,rfl⟩:=e0
   split at hf
   ·rename_i off size hpl
    split at hf
    ·rename_i xs hx
     cases b1:Nat.beq xs.length size with
     | false=>rw[b1]at hf;cases hf
     | true=>
      cases b2:Nat.ble (off+size) cs.length with
      | false=>rw[b1,b2]at hf;cases hf
      | true=>
       rw[b1,b2]at hf
       simp only[cond_true,Yu]at hf
       obtain⟨h4,h5⟩:=Yx hm hx h2
       have hsz:v.cells.size=size:=by rw[<-Xay,QE h4];exact(Qg _ _).1 b1
       have hcl:cells.size=cs.length:=by rw[<-Xay];exact QE hc
       have hfit:off+size<=cells.size:=by rw[hcl];exact XaJ b2
       have hfold:(v.cells.zipIdx.foldl (fun cs (x:Value×Nat)=>cs.setIfInBounds (off+x.2) x.1) cells).toList=splice cells.toList off v.cells.toList:=by
        rw[<-Array.foldl_toList,Array.toList_zipIdx]
        have h0:=QbK off v.cells.toList cells 0 (by simp;omega)
        rw[XbI]at h0
        exact h0
       have g1:=V2 hc h4 off
       rw[<-hfold]at g1
       obtain⟨r,r1,r2⟩:=Qk2 hm hf g1 hv2 h3
       refine⟨r,?_,r2⟩
       unfold Instr.fill
       have hp':places.toArray[i']?=some (off,size):=by simpa using hpl
       simp only[hp',hsz]
       rw[if_neg (by simp;omega)]
       exact r1
    ·cases hf
   ·cases hf
def WB:TypeDesc->Option (List Field)
 | .struct fs=>some fs.toList
 | _=>none
end

def eqD(d:TypeDesc)(x y:AV):Option Bool:=
 match d,x,y with
 | .int _,.d (.n k p),.d (.n k' q)=>match decEq k k' with
  | .isTrue _=>some (p==q)
  | .isFalse _=>none
 | .bool,.d (.b p),.d (.b q)=>some (p==q)
 | .string,.d (.s p),.d (.s q)=>some (p==q)
 | _,_,_=>none
mutual
def eqT(X:Cx)(ns:List Nat):Nat->TypeId->List AV->List AV->Option Bool
 | 0,_,_,_=>none
 | f+1,T,xs,ys=>match X.tt T with
  | some ti=>match WB ti.desc with
   | some fs=>bif ns.any (fun n=>Nat.beq n T)then eqF X ns f fs xs ys else none
   | none=>match xs,ys with
    | x::_,y::_=>eqD ti.desc x y
    | _,_=>none
  | none=>none
def eqF(X:Cx)(ns:List Nat):Nat->List Field->List AV->List AV->Option Bool
 | _,[],_,_=>some true
 | 0,_,_,_=>none
 | f + 1, fd :: fs, xs, ys => bif fd.name != "_" then (match X.tt fd.type with
  | some tf=>match eqT X ns f fd.type ((xs.drop fd.offset).take tf.size) ((ys.drop fd.offset).take tf.size) with
   | some a=>match eqF X ns f fs xs ys with
    | some b=>some (a&&b)
    | none=>none
   | none=>none
  | none=>none)else none
end
theorem Qqf{P:Program}{ns:List Nat}(h:(ns.all fun T=>!P.stoodInHeld T)=true){T:TypeId}(hT:ns.any (fun n=>Nat.beq n T)=true):P.stoodInHeld T=false:=by
 rw[XaX]at hT
 obtain⟨n,hn,e⟩:=hT
 rw[XaD]at h
 have:=h n hn
 rw[(Qg _ _).1 e]at this
 simpa using this
theorem Qtw{P:Program}{w wl:World}{en:List Ent}{I:Nat->Prop}{x y:AV}{u v:Value}{b:Bool}{T:TypeId}{d:TypeDesc}(hu:P.underlying T=some d)(h1:x.shows wl en I u)(h2:y.shows wl en I v)(hb:eqD d x y=some b)(n:Nat) :
  (Op.equalIn (n+1) T u v).run P w=.ok b w:=by
 unfold eqD at hb
 split at hb
 ·rename_i k p k' q
  split at hb
  ·rename_i hk _
   subst hk
   injection hb with hb
   subst hb
   obtain⟨F,⟨rfl,_⟩,_⟩:=h1
   obtain⟨G,⟨rfl,_⟩,_⟩:=h2
   simp[Op.equalIn,run_underlying hu]
  ·cases hb
 ·injection hb with hb
  subst hb
  obtain⟨F,⟨rfl,_⟩,_⟩:=h1
  obtain⟨G,⟨rfl,_⟩,_⟩:=h2
  simp[Op.equalIn,run_underlying hu]
 ·rename_i p q
  injection hb with hb
  subst hb
  obtain⟨F,⟨rfl,_⟩,_⟩:=h1
  obtain⟨G,⟨rfl,_⟩,_⟩:=h2
  have e:((⟨p.toArray⟩:ByteArray)==⟨q.toArray⟩)=(p==q):=by
   show((⟨p⟩:Array UInt8)==⟨q⟩)=(p==q)
   simp
  simp[Op.equalIn,run_underlying hu,e]
 ·cases hb
def X1(d:TypeDesc)(us:List Value):Value:=match WB d with
 | some _=>.agg us.toArray
 | none=>us.getD 0 undef
theorem QbJ{d:TypeDesc}{fs:List Field}(h:WB d=some fs):d=.struct fs.toArray:=by
 unfold WB at h
 split at h
 ·injection h with h;subst h;simp
 ·cases h
theorem QbT{P:Program}{w wl:World}{en:List Ent}{I:Nat->Prop}{T:TypeId}(ti:TI P T){us:List Value}{xs:List AV}{off:Nat}(hs:Qn wl en I xs us)(hne:WB ti.desc=none->JQ ti.desc=false/\(xs.drop off).take ti.size≠[]):(part T us.toArray off).run P w=.ok (X1 ti.desc ((us.drop off).take ti.size)) w:=by
 unfold X1
 cases hd:WB ti.desc with
 | some fs=>
  have:=QbJ hd
  rw[Qnx ti (by rw[this];rfl)]
 | none=>
  obtain⟨ha,hn⟩:=hne hd
  have hl:=QE (YQ (Wd hs off) ti.size)
  have h0:0<((us.drop off).take ti.size).length:=by rw[hl];exact Xbp.2 hn
  have h1:us[off]?=some (((us.drop off).take ti.size).getD 0 undef):=by
   simp only[Xai,XaN]at h0
   rw[List.getD_eq_getElem?_getD,List.getElem?_take,if_pos (by omega),List.getElem?_drop,XbI]
   rw[List.getElem?_eq_getElem (by omega)]
   rfl
  exact Qnc ti.und ha (by simpa using h1)
section
variable {X:Cx} {w wl:World} {en:List Ent} {I:Nat->Prop}
theorem Qsu{d:TypeDesc}{x y:AV}{b:Bool}(h:eqD d x y=some b):JQ d=false:=by
 unfold eqD at h
 split at h <;> first|rfl|cases h
mutual
theorem Qmy{ns:List Nat}(hc:(ns.all fun T=>!X.P.stoodInHeld T)=true):∀(f d:Nat) {T:TypeId} {ti:TI X.P T} {xs ys:List AV} {us vs:List Value} {b:Bool},X.tt T=some ti->eqT X ns f T xs ys=some b->Qn wl en I xs us->Qn wl en I ys vs->
  (Op.equalIn (f+d) T (X1 ti.desc us) (X1 ti.desc vs)).run X.P w=.ok b w/\(WB ti.desc=none->JQ ti.desc=false/\xs≠[]/\ys≠[])
 | 0,_,_,_,_,_,_,_,_,_,h,_,_=>by cases h
 | f+1,d,T,ti,xs,ys,us,vs,b,ht,h,h1,h2=>by
  simp only[eqT,ht]at h
  unfold X1
  cases hd:WB ti.desc with
  | some fs=>
   simp only[hd]at h
   cases hany:ns.any (fun n=>Nat.beq n T) with
   | false=>rw[hany]at h;cases h
   | true=>
   rw[hany,cond_true]at h
   refine⟨?_,fun e=>by cases e⟩
   have hu:=ti.und
   have hde:=QbJ hd
   rw[hde]at hu
   have hfo:X.P.fieldsOf T=fs.toArray:=by simp[Program.fieldsOf,hu]
   rw[show f+1+d=(f+d)+1 by omega,run_equalIn_struct w (f+d) T us.toArray vs.toArray (by rw[hfo];exact hu) (Qqf hc hany),hfo]
   exact QrG hc f d h h1 h2
  | none=>
   simp only[hd]at h
   split at h
   ·rename_i x xs' y ys'
    obtain⟨u,us',rfl,g1,g2⟩:=h1
    obtain⟨v,vs',rfl,g3,g4⟩:=h2
    refine⟨?_,fun _=>⟨Qsu h,by simp,by simp⟩⟩
    rw[show f+1+d=(f+d)+1 by omega]
    exact Qtw ti.und g1 g3 h _
   ·cases h
theorem QrG{ns:List Nat}(hc:(ns.all fun T=>!X.P.stoodInHeld T)=true):∀(f d:Nat) {fs:List Field} {xs ys:List AV} {us vs:List Value} {b:Bool},eqF X ns f fs xs ys=some b->Qn wl en I xs us->Qn wl en I ys vs->
  (Op.eqFields (f+d) us.toArray vs.toArray fs).run X.P w=.ok b w
 | f,d,[],xs,ys,us,vs,b,h,_,_=>by
  have:some true=some b:=by cases f <;> exact h
  injection this with h
  subst h
  simp[Op.eqFields,Sem.run_pure]
 | 0,_,fd::fs,_,_,_,_,_,h,_,_=>by cases h
 | f+1,d,fd::fs,xs,ys,us,vs,b,h,h1,h2=>by
  simp only[eqF]at h
  cases hn : fd.name != "_" with
  | false=>rw[hn]at h;cases h
  | true=>
   rw[hn]at h
   simp only[cond_true]at h
   split at h
   ·rename_i tf htf
    split at h
    ·rename_i a ha
     split at h
     ·rename_i c hcc
      injection h with h
      subst h
      obtain⟨k1,k2⟩:=Qmy hc f (d+1) htf ha (YQ (Wd h1 fd.offset) tf.size) (YQ (Wd h2 fd.offset) tf.size)
      have k3:=QrG hc f (d+1) hcc h1 h2
      rw[show f+(d+1)=f+1+d by omega]at k1 k3
      have p1:=QbT (w:=w) tf h1 (off:=fd.offset) (fun e=>⟨(k2 e).1,(k2 e).2.1⟩)
      have p2:=QbT (w:=w) tf h2 (off:=fd.offset) (fun e=>⟨(k2 e).1,(k2 e).2.2⟩)
      have hn' : fd.name ≠ "_" := by simpa using hn
      simp only[Op.eqFields,if_pos hn',Sem.run_bind,p1,p2,k1,Result.andThen_ok]
      cases a
      ·simp[Sem.run_pure]
      ·simpa using k3
     ·cases h
    ·cases h
   ·cases h
end
end
section
variable {X:Cx} {σ:AS} {o:Oper} {K:AS->Prop} {t:Nat}
end

theorem QaF{e:List D}{z:Nat}(h:e.length=z):lenE [e] z:=fun x hx=>by rw[XaM.1 hx];exact h
theorem Xi{α:Type}{f:α->List D}{l:List α}{z:Nat}(h:∀a,(f a).length=z):lenE (l.map f) z:=fun x hx=>by
 obtain⟨a,_,rfl⟩:=Xad.1 hx
 exact h a
theorem QN{α:Type}{f:α->List D}{l:List α}(h:∀a,(f a).all D.flat1=true):YT (l.map f)=true:=by
 unfold YT
 rw[XaD]
 intro x hx
 obtain⟨a,_,rfl⟩:=Xad.1 hx
 exact h a
def strE(l:List (List UInt8)):List (List D):=l.map fun s=>[.s s]
def intE(l:List Int):List (List D):=l.map fun x=>[.n .i64 x]
theorem QbW(l r:List UInt8):QG l++QG r=QG (l++r):=by simp[QG]
theorem Qj(l:List UInt8):(QG l).length=l.length:=by simp[QG]
theorem QK(l:List (List UInt8)):(strE l).length=l.length:=by simp[strE]
theorem Qb(l:List Int):(intE l).length=l.length:=by simp[intE]
end
end Go.Proofs.YtihgfennoalocaaGreat
namespace Go.Proofs.YtihgfennoalocaaGreat
open Go Go.RowKit Go.ChangeShapes Go.WideShapes

mutual
def TyD(X:Cx):Nat->TypeId->List D->Prop
 | 0,_,_=>False
 | n+1,T,ds=>match X.tt T with
  | some ti=>match ti.desc with
   | .int k=>∃z,ds=[.n k z]/\(Lit.int k z).wf=true
   | .bool=>∃b,ds=[.b b]
   | .string=>∃l,ds=[.s l]/\l.length<=9223372036854775807
   | .slice e=>∃es,ds=[.sl es]/\es.length<=9223372036854775807/\∀q∈es,TyD X n e q
   | .struct fs=>TyF X n fs.toList ds
   | _=>False
  | none=>False
def TyF(X:Cx):Nat->List Field->List D->Prop
 | _,[],ds=>ds=[]
 | 0,_,_=>False
 | n+1,f::fs,ds=>∃d1 d2,ds=d1++d2/\TyD X n f.type d1/\TyF X n fs d2
end
mutual
def chkD(X:Cx):Nat->TypeId->Bool
 | 0,_=>false
 | n+1,T=>match X.tt T with
  | some ti=>match ti.desc with
   | .int _=>Nat.beq ti.size 1
   | .bool=>Nat.beq ti.size 1
   | .string=>Nat.beq ti.size 1
   | .slice e=>Nat.beq ti.size 1&&chkD X n e&&(match X.tt e with
    | some te=>Nat.blt 0 te.size
    | none=>false)
   | .struct fs=>chkF X n fs.toList 0 ti.size
   | _=>false
  | none=>false
def chkF(X:Cx):Nat->List Field->Nat->Nat->Bool
 | _,[],off,n=>Nat.beq off n
 | 0,_,_,_=>false
 | f+1,fd::fs,off,n=>Nat.beq fd.offset off&&chkD X f fd.type&&(match X.tt fd.type with
  | some tf=>chkF X f fs (off+tf.size) n
  | none=>false)
end
theorem TI.cells{P:Program}{T:TypeId}(ti:TI P T):P.cellsOf T=ti.size:=by
 obtain⟨i,h1,_,h2,_⟩:=ti.parts
 unfold Program.cellsOf
 rw[h1]
 exact h2
section
variable {H:Type} {enc:TypeId×Value->H} {X:Cx} {w:World}
theorem QlQ{t e:TypeId}{m:Nat}{d:DataW H×List MemPlace}{fuel:Nat}{cs0:List Value}(ht:X.P.underlying t=some (.slice e))(hc:X.P.cellsOf e=m)(hm:0<m)(hf:DataW.trod enc X.P w 0 (fun _=>true) true fuel t cs0=some d) :
  ∃(A:Option Addr) (n cap:Nat) (xs:List Value),cs0=[.slice A n cap]/\cap<=maxLen/\Rd w m A n cap xs/\
   ∀i,i<n->∃(fuel:Nat) (y:DataW H×List MemPlace),DataW.trod enc X.P w 0 (fun _=>true) true fuel e ((xs.drop (i*m)).take m)=some y:=by
 rcases Go.Deep.open_slice ht hf with ⟨hcs,_⟩|⟨a,n0,cap,m',k,Dd,Pl,hcs,_,hl,hcm,hmm,_,hi⟩
 ·exact⟨none,0,0,[],hcs,Xab _,Rd.nil_ w m,fun i hi=>absurd hi (by omega)⟩
 ·have hle:n0<=m':=by rw[hmm];simp;exact hl
  have hi':∀i,∃cs':List Value,i<n0->w.cells? 0 (a.add (i*m)) m=some cs'/\DataW.trod enc X.P w 0 (fun _=>true) true k e cs'=some (Dd i,Pl i):=fun i=>by
   by_cases hin:i<n0
   ·obtain⟨cs',h1,h2⟩:=hi i (by omega)
    rw[hc]at h1
    exact⟨cs',fun _=>⟨h1,h2⟩⟩
   ·exact⟨[],fun hh=>absurd hh hin⟩
  obtain⟨cs,hcs'⟩:=Classical.axiomOfChoice hi'
  have hlen:∀i,i<n0->(cs i).length=m:=fun i hin=>(World.cells?_some (hcs' i hin).1).2.1
  have hflat:∀k,k<=n0->((List.range k).flatMap cs).length=k*m/\∀i,i<k->∀j,j<m->((List.range k).flatMap cs)[i*m+j]?=(cs i)[j]?:=by
   intro k
   induction k with
   | zero=>intro _;exact⟨by simp,fun i hi=>absurd hi (by omega)⟩
   | succ k ih=>
    intro hk
    obtain⟨i1,i2⟩:=ih (by omega)
    rw[XbP,XbT]
    have hk1:(List.flatMap cs [k])=cs k:=by simp
    rw[hk1]
    refine⟨by rw[Xac,i1,hlen k (by omega),XaR];omega,fun i hik j hj=>?_⟩
    by_cases hik':i<k
    ·have hb:i*m+j<k*m:=by
      have:(i+1)*m<=k*m:=XaH m hik'
      rw[XaR]at this;omega
     rw[List.getElem?_append_left (by rw[i1];exact hb)]
     exact i2 i hik' j hj
    ·have:i=k:=by omega
     subst this
     rw[List.getElem?_append_right (by rw[i1];omega),i1]
     congr 1
     omega
  obtain⟨f1,f2⟩:=hflat n0 (Xam _)
  have key:∀i,i<n0->∃(fuel:Nat) (y:DataW H×List MemPlace),DataW.trod enc X.P w 0 (fun _=>true) true fuel e ((((List.range n0).flatMap cs).drop (i*m)).take m)=some y:=fun i hin=>by
   have:(((List.range n0).flatMap cs).drop (i*m)).take m=cs i:=by
    apply List.ext_getElem?
    intro j
    by_cases hj:j<m
    ·rw[List.getElem?_take,if_pos hj,List.getElem?_drop,f2 i hin j hj]
    ·rw[List.getElem?_eq_none (by simp;omega),List.getElem?_eq_none (by rw[hlen i hin];omega)]
   exact⟨k,(Dd i,Pl i),by rw[this];exact(hcs' i hin).2⟩
  refine⟨some a,n0,cap,(List.range n0).flatMap cs,hcs,hcm,⟨f1,hl,⟨by unfold maxLen at hcm;omega,fun e=>by cases e⟩,fun hn=>?_⟩,key⟩
  have h0:∃u,w.cell? a=some u:=by
   obtain⟨_,hl0,hc0⟩:=World.cells?_some (hcs' 0 hn).1
   have:=hc0 0 hm
   simp only[Xbh,Addr.add,if_true]at this
   exact⟨(cs 0)[0]'(by omega),by rw[this,List.getElem?_eq_getElem]⟩
  obtain⟨u0,hu0⟩:=h0
  have ha:=Qon hu0
  refine⟨a.block,a.off,by rw[<-ha],fun j u hu=>?_⟩
  have hj:j<n0*m:=by rw[<-f1];exact(List.getElem?_eq_some_iff.1 hu).1
  have h1:j / m<n0:=(Nat.div_lt_iff_lt_mul hm).2 hj
  have h2:j % m<m:=Nat.mod_lt _ hm
  have h3:=f2 (j / m) h1 (j % m) h2
  rw[XcH]at h3
  obtain⟨_,_,hc0⟩:=World.cells?_some (hcs' (j / m) h1).1
  have h4:=hc0 (j % m) h2
  rw[ha,J5,J5,XbD,XcH,<-h3,hu]at h4
  exact h4
theorem Qkz{m:Nat}{Ty:List D->Prop}:∀(n:Nat) (xs:List Value),xs.length=n*m->(∀i,i<n->∃ds F,repL w ds ((xs.drop (i*m)).take m) F/\(∀b∈F,b<w.heap.size)/\Ty ds/\ds.length=m)->
  ∃es F,repE w es xs F/\es.length=n/\(∀e∈es,e.length=m)/\(∀b∈F,b<w.heap.size)/\∀q∈es,Ty q
 | 0,xs,hl,_=>⟨[],[],⟨XaA (by simpa using hl),rfl⟩,rfl,by simp,by simp,by simp⟩
 | n+1,xs,hl,h=>by
  rw[XaR,XbS]at hl
  obtain⟨ds,F,h1,h2,h3,h4⟩:=h 0 (by omega)
  rw[Xbh,XbM]at h1
  obtain⟨es,G,g1,g2,g3,g4,g5⟩:=Qkz (m:=m) n (xs.drop m) (by simp;omega) (fun i hi=>by
   obtain⟨ds,F,k1,k2,k3,k4⟩:=h (i+1) (by omega)
   refine⟨ds,F,?_,k2,k3,k4⟩
   rw[Xb3,show m+i*m=(i+1)*m by rw[XaR];omega]
   exact k1)
  refine⟨ds::es,F++G,⟨xs.take m,xs.drop m,F,G,(List.take_append_drop m xs).symm,rfl,h1,g1⟩,by simp[g2],fun e he=>?_,fun b hb=>?_,fun q hq=>?_⟩
  ·rcases Xaj.1 he with rfl|he
   ·exact h4
   ·exact g3 e he
  ·rcases Xag.1 hb with hb|hb
   ·exact h2 b hb
   ·exact g4 b hb
  ·rcases Xaj.1 hq with rfl|hq
   ·exact h3
   ·exact g5 q hq
mutual
theorem Qd2:∀(n:Nat) {T:TypeId} {ti:TI X.P T} {fuel:Nat} {cs:List Value} {x:DataW H×List MemPlace},X.tt T=some ti->chkD X n T=true->DataW.trod enc X.P w 0 (fun _=>true) true fuel T cs=some x->
  ∃ds F,repL w ds cs F/\(∀b∈F,b<w.heap.size)/\TyD X n T ds/\ds.length=ti.size
 | 0,_,_,_,_,_,_,h,_=>by cases h
 | n+1,T,ti,fuel,cs,x,ht,h,hx=>by
  have hu:=ti.und
  simp only[chkD,ht]at h
  simp only[TyD,ht]
  split at h
  ·rename_i k hde
   rw[hde]at hu
   obtain⟨z,rfl,_,hw⟩:=DataW.trod_int hu hx
   exact⟨[.n k z],[],⟨_,[],[],[],rfl,rfl,⟨rfl,rfl⟩,rfl,rfl⟩,by simp,⟨z,rfl,hw⟩,((Qg _ _).1 h).symm⟩
  ·rename_i hde
   rw[hde]at hu
   obtain⟨z,rfl,_⟩:=DataW.trod_bool hu hx
   exact⟨[.b z],[],⟨_,[],[],[],rfl,rfl,⟨rfl,rfl⟩,rfl,rfl⟩,by simp,⟨z,rfl⟩,((Qg _ _).1 h).symm⟩
  ·rename_i hde
   rw[hde]at hu
   obtain⟨z,rfl,_,hm⟩:=DataW.trod_string hu hx
   refine⟨[.s z.data.toList],[],⟨_,[],[],[],rfl,rfl,⟨by rw[Qdx],rfl⟩,rfl,rfl⟩,by simp,⟨z.data.toList,rfl,?_⟩,((Qg _ _).1 h).symm⟩
   have:z.data.toList.length=z.size:=Xay
   unfold maxLen at hm
   omega
  ·rename_i e hde
   rw[hde]at hu
   simp only[Xaf]at h
   obtain⟨⟨h1,h2⟩,h3⟩:=h
   split at h3
   ·rename_i te hte
    have hpos:=Jg h3
    obtain⟨A,m,cap,xs,rfl,hcm,hr,hi⟩:=QlQ hu te.cells hpos hx
    obtain⟨es,F,g1,g2,g3,g4,g5⟩:=Qkz (w:=w) (m:=te.size) (Ty:=TyD X n e) m xs hr.1 (fun i him=>by
     obtain⟨f',y,hy⟩:=hi i him
     exact Qd2 n hte h2 hy)
    have hmm:m<=maxLen:=Xao hr.2.1 hcm
    by_cases h0:es=[]
    ·subst h0
     simp only[XaU]at g2
     subst g2
     have hx0:=g1.1
     refine⟨[.sl []],[],⟨_,[],[],[],rfl,rfl,⟨A,cap,te.size,[],[],rfl,Xab _,hcm,hr.2.2.1.2,by simp,⟨rfl,rfl⟩,.inl ⟨rfl,rfl⟩⟩,rfl,rfl⟩,by simp,⟨[],rfl,by simp,by simp⟩,((Qg _ _).1 h1).symm⟩
    ·have hm0:0<m:=by rw[<-g2];exact Xbp.2 h0
     obtain⟨b,o,rfl,hcell⟩:=hr.2.2.2 hm0
     have hxl:0<xs.length:=by rw[hr.1];exact Nat.mul_pos hm0 hpos
     have hlt:b<w.heap.size:=World.block_lt_of_cell? w _ (hcell 0 _ (List.getElem?_eq_getElem hxl))
     refine⟨[.sl es],b::F,⟨_,[],b::F,[],rfl,by simp,⟨_,cap,te.size,xs,F,by rw[g2],by rw[g2];exact hr.2.1,hcm,(fun e=>by cases e),g3,g1,.inr ⟨h0,b,o,rfl,hlt,rfl,hcell⟩⟩,rfl,rfl⟩,fun c hc=>?_,⟨es,rfl,by rw[g2];unfold maxLen at hmm;omega,g5⟩,((Qg _ _).1 h1).symm⟩
     rcases Xaj.1 hc with rfl|hc
     ·exact hlt
     ·exact g4 c hc
   ·cases h3
  ·rename_i fs hde
   rw[hde]at hu
   obtain⟨xs,m,_,_,hl,hxl,hf⟩:=DataW.trod_struct hu hx
   rw[ti.cells]at hl
   obtain⟨ds,F,g1,g2,g3,g4⟩:=Qdc n (fs:=fs.toList) (off:=0) (total:=ti.size) (cs:=cs) h (by omega) (fun i f hfi=>by
    have hfi':fs[i]?=some f:=by simpa using hfi
    have h5:=hf i f hfi'
    have:i<xs.length:=by rw[hxl];exact(Array.getElem?_eq_some_iff.1 hfi').1
    exact⟨m,_,h5.trans (List.getElem?_eq_getElem this)⟩)
   simp only[XbM]at g1
   exact⟨ds,F,g1,g2,g3,by simpa using g4⟩
  ·cases h
theorem Qdc:∀(n:Nat) {fs:List Field} {off total:Nat} {cs:List Value},chkF X n fs off total=true->cs.length=total->(∀(i:Nat) (f:Field),fs[i]?=some f->∃(fuel:Nat) (y:DataW H×List MemPlace),DataW.trod enc X.P w 0 (fun _=>true) true fuel f.type ((cs.drop f.offset).take (X.P.cellsOf f.type))=some y)->
  ∃ds F,repL w ds (cs.drop off) F/\(∀b∈F,b<w.heap.size)/\TyF X n fs ds/\ds.length=total-off
 | n,[],off,total,cs,h,hl,_=>by
  have:Nat.beq off total=true:=by cases n <;> exact h
  have e:=(Qg _ _).1 this
  refine⟨[],[],⟨Xa7 (by omega),rfl⟩,by simp,by cases n <;> rfl,by simp;omega⟩
 | 0,f::fs,_,_,_,h,_,_=>by cases h
 | n+1,f::fs,off,total,cs,h,hl,hf=>by
  simp only[chkF,Xaf]at h
  obtain⟨⟨h1,h2⟩,h3⟩:=h
  have hoff:=(Qg _ _).1 h1
  split at h3
  ·rename_i tf htf
   obtain⟨fu,y,hy⟩:=hf 0 f rfl
   rw[hoff,tf.cells]at hy
   obtain⟨d1,F1,g1,g2,g3,g4⟩:=Qd2 n htf h2 hy
   obtain⟨d2,F2,k1,k2,k3,k4⟩:=Qdc n h3 hl (fun i f' hi=>hf (i+1) f' (by simpa using hi))
   refine⟨d1++d2,F1++F2,?_,fun b hb=>(Xag.1 hb).elim (g2 b) (k2 b),⟨d1,d2,rfl,g3,k3⟩,?_⟩
   ·have:=JE g1 k1
    rwa [<-Xb3,XaO]at this
   ·have hlt:=QA g1
    rw[g4,Xai,XaN]at hlt
    rw[Xac,g4,k4]
    omega
  ·cases h3
end
theorem law_arg(n:Nat){H:Type}{X:Cx}{enc:TypeId×Value->H}{w:World}{T:TypeId}{ti:TI X.P T}{r:Reach}{b0:Nat}{v:Value}{d:DataW H}{p:List MemPlace}(ht:X.tt T=some ti)(hc:chkD X (n+1) T=true)(hok:Value.okWide X.P w r b0 T v)(h:DataW.Trod enc X.P w 0 (fun _=>true) true T v d p) :
  ∃ds F,repL w ds v.cells.toList F/\(∀b∈F,b<w.heap.size)/\TyD X (n+1) T ds/\ds.length=ti.size/\(JQ ti.desc=true->∃cs,v=.agg cs)/\(JQ ti.desc=false->v.cells=#[v]):=by
 obtain⟨fuel,hf⟩:=h
 obtain⟨ds,F,h1,h2,h3,h4⟩:=Qd2 (w:=w) (n+1) ht hc hf
 have hu:=ti.und
 refine⟨ds,F,h1,h2,h3,h4,fun ha=>?_,fun ha=>?_⟩
 ·simp only[chkD,ht]at hc
  split at hc
  ·rename_i hde
   rw[hde]at ha
   cases ha
  ·rename_i hde
   rw[hde]at ha
   cases ha
  ·rename_i hde
   rw[hde]at ha
   cases ha
  ·rename_i hde
   rw[hde]at ha
   cases ha
  ·rename_i hde
   rw[hde]at hu
   obtain⟨cs,rfl,_⟩:=okWide_struct hu hok
   exact⟨cs,rfl⟩
  ·cases hc
 ·simp only[chkD,ht]at hc
  split at hc
  ·rename_i hde
   rw[hde]at hu
   obtain⟨n,rfl⟩:=okWide_int hu hok
   rfl
  ·rename_i hde
   rw[hde]at hu
   obtain⟨n,rfl⟩:=okWide_bool hu hok
   rfl
  ·rename_i hde
   rw[hde]at hu
   obtain⟨n,rfl⟩:=okWide_string hu hok
   rfl
  ·rename_i hde
   rw[hde]at hu
   obtain⟨a,l,c,rfl⟩:=okWide_slice hu hok
   rfl
  ·rename_i hde
   rw[hde]at ha
   cases ha
  ·cases hc
end
section
variable {P:Program} {W:World}
theorem QmY{x:D}{v:Value}{F:List Nat}(h:repL W [x] v.cells.toList F)(hF:∀b∈F,b<W.heap.size)(hv:v.cells=#[v]):(AV.d x).shows W [] (fun b=>b<W.heap.size) v:=by
 obtain⟨u,us',F1,F2,e,rfl,h1,h2⟩:=h
 rw[hv]at e
 simp only[Xbw]at e
 obtain⟨rfl,_⟩:=e
 exact⟨F1,h1,fun b hb=>hF b (Xat _ hb)⟩
theorem Qc5{ds:List D}{cs:Array Value}{F:List Nat}(h:repL W ds cs.toList F)(hF:∀b∈F,b<W.heap.size):(AV.agg (ds.map AV.d)).shows W [] (fun b=>b<W.heap.size) (.agg cs):=
 ⟨cs.toList,by simp,Wk h hF⟩
theorem law_of{f:FuncId}{xs:List AV}{us:List Value}(h:ACalls P f xs [.d (.b true)] [])(hs:Qn W [] (fun b=>b<W.heap.size) xs us):Calls P f us.toArray W fun e W'=>e=.returned (.bool true)/\Below W.heap.size W W':=
 ((h W us hs).2).mono fun e W' ⟨v,en,he,m,_,hr⟩=>by
  obtain⟨F,⟨hv,_⟩,_⟩:=hr
  exact⟨by rw[he,hv],Qbk m⟩
end
end Go.Proofs.YtihgfennoalocaaGreat
