/-
  The walk over abstract states: calls that use up the rows that they are handed and write the boxes; the contract, entry and return.
-/
import Derived.Test.YtkdniahincpmaaaGreatQB5
set_option maxRecDepth 100000
set_option maxHeartbeats 16000000
namespace Go.Proofs.YtkdniahincpmaaaGreat
open Go Go.RowKit
section

def AO.mapN(γ:Nat->Nat):AO->AO
 | .box e cs=>.box e (Qcd γ cs)
 | x=>x
theorem AO.mapN_isRow(γ:Nat->Nat)(x:AO):(x.mapN γ).isRow=x.isRow:=by cases x <;> rfl
theorem AO.mapN_lens(γ:Nat->Nat)(x:AO):(x.mapN γ).lens=x.lens:=by cases x <;> rfl
theorem AO.mapN_deep(γ:Nat->Nat)(x:AO):(x.mapN γ).deep=x.deep:=by cases x <;> rfl
def Qxw(obs fin:List (Nat×AO)):Bool:=fin.all fun y=>bif fre0 y.1 then true else match Ql obs y.1 with
 | some ao=>!ao.isRow&&!y.2.isRow
 | none=>false
def NCalls{ι:Type}(P:Program)(f:FuncId)(args:List AV)(obs:List (Nat×AO))(ok:ι->Prop)(rs:ι->List AV)(fin:ι->List (Nat×AO)):Prop:=
 (∀i,ok i->Qxw obs (fin i)=true)/\
 ∀(w:World) (Zp:Nat->Prop) (eh:List Ent) (us:List Value),Mem P w (ZH Zp eh) (OH eh) eh w->eh.map Ent.key=obs->Qn w eh (Imm w (ZH Zp eh) (OH eh) eh w) args us->
  (∀w',(callFunc f us.toArray).run P w'=.ok (.enter f us.toArray) w')/\
  Calls P f us.toArray w fun e w'=>∃i v en,ok i/\e=.returned v/\Mem P w (ZH Zp eh) (OH eh) en w'/\(en.map Ent.key).Perm (fin i)/\(one (rs i)).shows w' en (Imm w (ZH Zp eh) (OH eh) en w') v
section
variable {w:World} {en en':List Ent} {I I':Nat->Prop} {γ:Nat->Nat} {p:Nat->Bool}
mutual
theorem AV.shows_un(hI:∀b,I b->I' b)(he:∀n,p n=true->∀x∈en,x.nm=γ n->∃y∈en',y.nm=n/\y.val=x.val/\y.ao.isRow=x.ao.isRow/\y.ao.lens=x.ao.lens):∀(x:AV) (u:Value),x.okp p=true->(x.mapN γ).shows w en I u->x.shows w en' I' u
 | .any,_,_,_=>trivial
 | .d x,u,_,h=>by
  obtain⟨F,h1,h2⟩:=h
  exact⟨F,h1,fun b hb=>hI b (h2 b hb)⟩
 | .nil,_,_,h=>h
 | .row o,u,hp,h=>by
  obtain⟨x,hx,h0,h1,h2⟩:=h
  obtain⟨y,hy,g1,g2,g3,_⟩:=he o hp x hx h0
  exact⟨y,hy,g1,by rw[g3];exact h1,by rw[g2];exact h2⟩
 | .ptr o off,u,hp,h=>by
  obtain⟨x,hx,h0,h1,g,h2,h3⟩:=h
  obtain⟨y,hy,g1,g2,g3,_⟩:=he o hp x hx h0
  exact⟨y,hy,g1,by rw[g3];exact h1,g,by rw[g2];exact h2,h3⟩
 | .pr o i off,u,hp,h=>by
  obtain⟨x,hx,h0,h1,g,z,h2,h3,h4,h5⟩:=h
  obtain⟨y,hy,g1,g2,g3,g4⟩:=he o hp x hx h0
  exact⟨y,hy,g1,by rw[g3];exact h1,g,z,by rw[g2];exact h2,by rw[g4];exact h3,by rw[g4];exact h4,h5⟩
 | .pd e off,u,_,h=>by
  obtain⟨b,o,us,F,h1,h2,h3,h4,h5⟩:=h
  exact⟨b,o,us,F,h1,h2,h3,hI b h4,fun c hc=>hI c (h5 c hc)⟩
 | .agg xs,u,hp,h=>by
  obtain⟨us,h1,h2⟩:=h
  exact⟨us,h1,Xw hI he xs us hp h2⟩
 | .tup xs,u,hp,h=>by
  obtain⟨us,h1,h2⟩:=h
  exact⟨us,h1,Xw hI he xs us hp h2⟩
 | .clo g xs,u,hp,h=>by
  obtain⟨us,h1,h2⟩:=h
  exact⟨us,h1,Xw hI he xs us hp h2⟩
 | .sub o i j,u,hp,h=>by
  obtain⟨x,hx,h0,h1,h2,A,n,c,z,h3,h4,h5⟩:=h
  obtain⟨y,hy,g1,g2,g3,g4⟩:=he o hp x hx h0
  exact⟨y,hy,g1,by rw[g3];exact h1,by rw[g4];exact h2,A,n,c,z,by rw[g2];exact h3,by rw[g4];exact h4,h5⟩
theorem Xw(hI:∀b,I b->I' b)(he:∀n,p n=true->∀x∈en,x.nm=γ n->∃y∈en',y.nm=n/\y.val=x.val/\y.ao.isRow=x.ao.isRow/\y.ao.lens=x.ao.lens):∀(xs:List AV) (us:List Value),okpL p xs=true->Qn w en I (Qcd γ xs) us->Qn w en' I' xs us
 | [],_,_,h=>h
 | x::xs,us,hp,h=>by
  obtain⟨u,us',h1,h2,h3⟩:=h
  simp only[okpL,Xac]at hp
  exact⟨u,us',h1,AV.shows_un hI he x u hp.1 h2,Xw hI he xs us' hp.2 h3⟩
end
end
def gamN(ρ:List Nat)(n:Nat):Nat:=bif fre0 n then ρ.getD n 0 else n
def Qm6(σ:AS)(ρ:List Nat):List (Nat×AO)->Prop
 | []=>True
 | (n,.row e es d)::l=>Ql σ.ob (gamN ρ n)=some (.row e es d)/\Qm6 σ ρ l
 | (n,.box e cs)::l=>Ql σ.ob (gamN ρ n)=some (.box e (Qcd (gamN ρ) cs))/\Qm6 σ ρ l
def finB(ρ:List Nat)(rs:List AV)(fin:List (Nat×AO)):Bool:=
 YZ (fin.map fun y=>gamN ρ y.1)&&W4 fin&&(fin.all fun y=>y.2.okp fun n=>hasN n fin)&&okpL (fun n=>hasN n fin) rs
theorem Qlh{X:Cx}{σ:AS}{a:Act}{w:World}{en:List Ent}(h:J2 X σ a w en){ρ:List Nat}:∀{fin:List (Nat×AO)},Qm6 σ ρ fin->
  ∃er:List Ent,er.map Ent.key=fin/\∀y∈er,∃x∈en,x.nm=gamN ρ y.nm/\y.val=x.val/\y.fs=x.fs/\x.ao=y.ao.mapN (gamN ρ)
 | [],_=>⟨[],rfl,by simp⟩
 | (n,ao)::l,hf=>by
  have key:Ql σ.ob (gamN ρ n)=some (ao.mapN (gamN ρ))/\Qm6 σ ρ l:=by cases ao <;> exact hf
  obtain⟨er,g1,g2⟩:=Qlh h key.2
  obtain⟨x,hx,hxn,hxa⟩:=h.ent key.1
  refine⟨⟨n,ao,x.val,x.fs⟩::er,by rw[Xas,g1];rfl,fun y hy=>?_⟩
  rcases Xai.1 hy with rfl|hy
  ·exact⟨x,hx,hxn,rfl,rfl,hxa⟩
  ·exact g2 y hy
def RetN{ι:Type}(X:Cx)(fn:Func)(rs:ι->List AV)(fin:ι->List (Nat×AO))(i:ι)(ρ:List Nat)(σ:AS):Prop:=
 finB ρ (rs i) (fin i)=true/\QbY X σ fn.results.toList (Qcd (gamN ρ) (rs i))/\Qm6 σ ρ (fin i)
def retN{ι:Type}(X:Cx)(fn:Func)(ok:ι->Prop)(rs:ι->List AV)(fin:ι->List (Nat×AO)):Exit->AS->Prop
 | .normal,σ|.ret,σ=>∃i ρ,ok i/\RetN X fn rs fin i ρ σ
 | _,_=>False
theorem Qu8(γ:Nat->Nat)(rs:List AV):(one rs).mapN γ=one (Qcd γ rs):=by
 match rs with
 | []=>rfl
 | [x]=>rfl
 | x::y::zs=>rfl
theorem Qvg(p:Nat->Bool)(rs:List AV)(h:okpL p rs=true):(one rs).okp p=true:=by
 match rs,h with
 | [],_=>rfl
 | [x],h=>simpa [okpL,one] using h
 | x::y::zs,h=>exact h
theorem Qh4{γ:Nat->Nat}:∀{l:List (Nat×AO)},(l.map fun y=>γ y.1).Nodup->∀x∈l,∀y∈l,γ x.1=γ y.1->x.1=y.1
 | a::l,h,x,hx,y,hy,e=>by
  rw[Xas,XaQ]at h
  rcases Xai.1 hx with rfl|hx' <;> rcases Xai.1 hy with rfl|hy'
  ·rfl
  ·exact absurd (Xaf.2 ⟨y,hy',e.symm⟩) h.1
  ·exact absurd (Xaf.2 ⟨x,hx',e⟩) h.1
  ·exact Qh4 h.2 x hx' y hy' e
theorem Qp6{ι:Type}{P:Program}{w0:World}{Z:ZV fre0}{O:Nat->Prop}{tt:(T:TypeId)->Option (TI P T)}{fn:Func}{ok:ι->Prop}{rs:ι->List AV}{fin:ι->List (Nat×AO)}{i:ι}{ρ:List Nat}{σ:AS}{a:Act}{w:World}
  (hok:ok i) (hr:RetN ⟨P,w0,fre0,Z,O,tt⟩ fn rs fin i ρ σ) (h:Rel ⟨P,w0,fre0,Z,O,tt⟩ σ a w) :
  a.defers=[]/\∃v,(results fn a.tmps).run P w=.ok v w/\∃i v' en,ok i/\Ending.returned v=.returned v'/\Mem P w0 Z O en w/\(en.map Ent.key).Perm (fin i)/\(one (rs i)).shows w en (Imm w0 Z O en w) v':=by
 obtain⟨en,h1⟩:=h
 obtain⟨r1,r3,r4⟩:=hr
 simp only[finB,Xac]at r1
 obtain⟨⟨⟨q1,q2⟩,q3⟩,q4⟩:=r1
 obtain⟨r,h2,k⟩:=VQ h1 _ _ r3
 obtain⟨g,g1,g2⟩:=Qlh h1 r4
 have m:=h1.mem
 have as:=Wc q1
 have au:=WC q2
 have aa:∀y∈g,y.key∈fin i:=fun y c=>g1▸Xaf.2 ⟨y,c,rfl⟩
 have d:(g.map Ent.nm).Nodup:=by
  have e:g.map Ent.nm=(fin i).map Prod.fst:=by rw[<-g1,XaR];rfl
  rw[e];exact au
 have al:∀x∈g,∀y∈g,gamN ρ x.nm=gamN ρ y.nm->x.nm=y.nm:=fun x hx y c e=>Qh4 as x.key (aa x hx) y.key (aa y c) e
 have t:∀{x y:Ent},y.val=x.val->y.fs=x.fs->x.ao=y.ao.mapN (gamN ρ)->∀b,y.hd b↔x.hd b:=fun {x y} e1 e2 e3 b=>by
  unfold Ent.hd
  rw[e1,e2,e3,AO.mapN_deep]
 have ae:∀x∈g,∀y∈g,x.nm≠y.nm->∀b,x.hd b->¬y.hd b:=fun x hx y c hne b hb hb'=>by
  obtain⟨x',f,o,j,s,p⟩:=g2 x hx
  obtain⟨y',l1,l2,l3,l4,l5⟩:=g2 y c
  exact m.hd_ne f l1 (fun e=>hne (al x hx y c (by rw[<-o,<-l2,e]))) ((t j s p b).1 hb) ((t l3 l4 l5 b).1 hb')
 have hI:∀b,Imm w0 Z O en w b->Imm w0 Z O g w b:=fun b hb=>⟨hb.1,hb.2.1,fun y c e=>by
  obtain⟨x',f,o,j,s,p⟩:=g2 y c
  exact hb.2.2 x' f ((t j s p b).1 e)⟩
 have af:∀n,hasN n (fin i)=true->∀x∈en,x.nm=gamN ρ n->∃y∈g,y.nm=n/\y.val=x.val/\y.ao.isRow=x.ao.isRow/\y.ao.lens=x.ao.lens:=fun n hn x hx e=>by
  obtain⟨q,hq,rfl⟩:=Ji.1 hn
  rw[<-g1]at hq
  obtain⟨y,c,rfl⟩:=Xaf.1 hq
  obtain⟨x',f,o,j,s,p⟩:=g2 y c
  have:=m.ent_unique hx f (e.trans o.symm)
  subst this
  exact⟨y,c,rfl,j,by rw[p,AO.mapN_isRow],by rw[p,AO.mapN_lens]⟩
 refine⟨h1.defers,(if h:r.length=1 then r[0]else .tuple r.toArray),?_,i,_,g,hok,rfl,⟨m.os,m.tape,m.output,m.size,m.old,d,?_,?_,?_,?_⟩,by rw[g1],?_⟩
 ·have e:results fn a.tmps=(do let vs <-fn.results.mapM (ZZ a.tmps);pure (if h:vs.size=1 then vs[0]else .tuple vs)):=rfl
  have e2:fn.results.mapM (ZZ a.tmps)=(do let l <-fn.results.toList.mapM (ZZ a.tmps);pure l.toArray):=by
   rw[bind_pure_comp,<-XcF]
  rw[e,e2]
  simp only[Sem.run_bind,h2,Result.andThen,Sem.run_pure]
  simp
 ·rw[List.Nodup,Xbn]at d
  exact d.imp_of_mem fun hx c hne=>ae _ hx _ c hne
 ·intro y c
  obtain⟨x,f,o,j,s,p⟩:=g2 y c
  have hok:=m.ok x f
  unfold EntOk at hok ⊢
  rw[p]at hok
  cases ab:y.ao with
  | row e es dp=>
   rw[ab]at hok
   obtain⟨z,vs,j0,j1,j2,j3,j4,j5,j6,j7⟩:=hok
   simp only
   rw[j,s]
   exact⟨z,vs,j0,j1,j2,j3,j4,fun hd b hb=>hI b (j5 hd b hb),j6,j7⟩
  | box e cs=>
   rw[ab]at hok
   obtain⟨j0,q,ai,j1,j2,j3,j4⟩:=hok
   simp only
   rw[j,s]
   refine⟨j0,q,ai,j1,j2,j3,Xw hI af cs _ ?_ j4⟩
   have:=XaD.1 q3 y.key (aa y c)
   simp only[Ent.key,ab]at this
   exact this
 ·rw[List.Nodup,Xbn]at d
  exact d.imp_of_mem fun hx c hne d1 d2 b hb hb'=>ae _ hx _ c hne b (.inr ⟨d1,hb⟩) (.inr ⟨d2,hb'⟩)
 ·intro y c
  obtain⟨x,f,o,j,s,p⟩:=g2 y c
  cases hf:fre0 y.nm with
  | true=>exact Z.lo _ _ hf
  | false=>
   have e:gamN ρ y.nm=y.nm:=by unfold gamN;rw[hf];rfl
   rw[j,<-e,<-o]
   exact m.fix x f
 ·have key:(one (Qcd (gamN ρ) (rs i))).shows w en (Imm w0 Z O en w) (if h:r.length=1 then r[0]else .tuple r.toArray):=by
   generalize Qcd (gamN ρ) (rs i)=vs at k
   match vs,k with
   | [],k=>
    have:r=[]:=k
    subst this
    exact⟨[],rfl,rfl⟩
   | [x],k=>
    obtain⟨u,av,rfl,f,o⟩:=k
    have:av=[]:=o
    subst this
    exact f
   | x::y::zs,k=>
    have:r.length≠1:=by rw[QD k];simp
    rw[dif_neg this]
    exact⟨r,rfl,k⟩
  rw[<-Qu8]at key
  exact AV.shows_un hI af _ _ (Qvg _ _ q4) key
theorem Ve{ι:Type}{P:Program}(tt:(T:TypeId)->Option (TI P T)){f:FuncId}{fn:Func}{c:Code}{args:List AV}{obs:List (Nat×AO)}{ok:ι->Prop}{rs:ι->List AV}{fin:ι->List (Nat×AO)}
  (hf : P.funcs[f]? = some fn) (hname : (fn.name == "runtime.NumGoroutine") = false) (hb : fn.body = some c) (hn : Nat.ble args.length fn.ntmps = true) (hs : ∀ i, ok i → Qxw obs (fin i) = true)
  (h:∀(w0:World) (Z:ZV fre0) (O:Nat->Prop),AWp ⟨P,w0,fre0,Z,O,tt⟩ c (retN ⟨P,w0,fre0,Z,O,tt⟩ fn ok rs fin) ⟨fn.ntmps,Qfk 0 args,obs⟩):NCalls P f args obs ok rs fin:=by
 refine⟨hs,?_⟩
 intro w Zp d b s g l
 refine⟨fun w'=>Go.MuLone.run_callFunc_enter hf hname hb _ w',?_⟩
 refine calls_of_wp hf hb ?_
 have j:=QD l
 have r:b.length<=fn.ntmps:=by rw[j];exact XaL hn
 have k:Rel ⟨P,w,fre0,ZH Zp d,OH d,tt⟩ ⟨fn.ntmps,Qfk 0 args,obs⟩ { tmps:=b.toArray++Array.replicate (fn.ntmps-b.toArray.size) undef,defers:=[] } w:=by
  refine⟨d,s,by rw[g],rfl,by simp;omega,fun t=>?_⟩
  simp only[Qab,Xae,if_true,XbE]
  rw[Array.getD_eq_getD_getElem?]
  cases o:args[t]? with
  | none=>simp only[List.getD,o,Xce];trivial
  | some x=>
   obtain⟨u,p,q⟩:=WF l o
   simp only[List.getD,o,XaJ]
   have n:t<b.length:=(List.getElem?_eq_some_iff.1 p).1
   have:(b.toArray++Array.replicate (fn.ntmps-b.toArray.size) undef)[t]?=some u:=by
    rw[Array.getElem?_append_left (by simpa using n)]
    simpa using p
   rw[this]
   exact q
 refine wp_mono (h w (ZH Zp d) (OH d) _ w k) (fun e a' w' ⟨σ,a,hr⟩=>?_)
 cases e with
 | normal=>obtain⟨i,ρ,m,a⟩:=a;exact Qp6 m a hr
 | ret=>obtain⟨i,ρ,m,a⟩:=a;exact Qp6 m a hr
 | _=>exact a.elim

mutual
def AV.handN(ρ:List Nat):AV->Option AV
 | .any=>some .any
 | .d x=>some (.d x)
 | .nil=>some .nil
 | .row p=>match idxN ρ 500000 p with
  | some k=>some (.row k)
  | none=>none
 | .ptr p o=>match idxN ρ 1000000 p with
  | some k=>some (.ptr k o)
  | none=>none
 | .agg xs=>match QdG ρ xs with
  | some ys=>some (.agg ys)
  | none=>none
 | .clo g xs=>match QdG ρ xs with
  | some ys=>some (.clo g ys)
  | none=>none
 | .pd e i=>some (.pd e i)
 | _=>none
def QdG(ρ:List Nat):List AV->Option (List AV)
 | []=>some []
 | x::xs=>match x.handN ρ with
  | some y=>match QdG ρ xs with
   | some ys=>some (y::ys)
   | none=>none
  | none=>none
end
def AS.handNA(σ:AS)(ρ:List Nat):List Operand->Option (List AV)
 | []=>some []
 | x::xs=>match (σ.ev x).handN ρ with
  | some y=>match σ.handNA ρ xs with
   | some ys=>some (y::ys)
   | none=>none
  | none=>none
def AS.handedN(σ:AS)(ρ0:List Nat):Nat->List Nat->Option (List (Nat×AO))
 | _,[]=>some []
 | j,p::ρ=>match Ql σ.ob p with
  | some (.row e es d)=>match σ.handedN ρ0 (j+1) ρ with
   | some l=>some ((500000+j,.row e es d)::l)
   | none=>none
  | some (.box e cs)=>match QdG ρ0 cs with
   | some cs'=>match σ.handedN ρ0 (j+1) ρ with
    | some l=>some ((1000000+j,.box e cs')::l)
    | none=>none
   | none=>none
  | none=>none
def hbase(r:Bool):Nat:=bif r then 500000 else 1000000
structure Hnd (ρ0:List Nat) (j:Nat) (x y:Ent):Prop where
 nm:y.nm=hbase x.ao.isRow+j
 val:y.val=x.val
 fs:y.fs=x.fs
 row:∀e es d,x.ao=.row e es d->y.ao=x.ao
 box:∀e cs,x.ao=.box e cs->∃cs',QdG ρ0 cs=some cs'/\y.ao=.box e cs'
theorem Hnd.isRow{ρ0:List Nat}{j:Nat}{x y:Ent}(h:Hnd ρ0 j x y):y.ao.isRow=x.ao.isRow:=by
 cases a:x.ao with
 | row e es d=>rw[h.row _ _ _ a,a]
 | box e cs=>obtain⟨_,_,b⟩:=h.box _ _ a;rw[b];rfl
theorem Hnd.lens{ρ0:List Nat}{j:Nat}{x y:Ent}(h:Hnd ρ0 j x y):y.ao.lens=x.ao.lens:=by
 cases a:x.ao with
 | row e es d=>rw[h.row _ _ _ a,a]
 | box e cs=>obtain⟨_,_,b⟩:=h.box _ _ a;rw[b];rfl
theorem Hnd.hd{ρ0:List Nat}{j:Nat}{x y:Ent}(h:Hnd ρ0 j x y)(b:Nat):y.hd b↔x.hd b:=by
 unfold Ent.hd
 rw[h.val,h.fs]
 have:y.ao.deep=x.ao.deep:=by
  cases a:x.ao with
  | row e es d=>rw[h.row _ _ _ a,a]
  | box e cs=>obtain⟨_,_,c⟩:=h.box _ _ a;rw[c];rfl
 rw[this]
theorem QcI{X:Cx}{σ:AS}{a:Act}{w:World}{en:List Ent}(h:J2 X σ a w en){ρ0:List Nat}:∀(ρ:List Nat) (n:Nat) (obs:List (Nat×AO)),σ.handedN ρ0 n ρ=some obs->
  ∃eh:List Ent,eh.map Ent.key=obs/\(∀y∈eh,∃x∈en,∃j,ρ[j]?=some x.nm/\Hnd ρ0 (n+j) x y)/\(∀j p,ρ[j]?=some p->∃x∈en,x.nm=p/\∃y∈eh,Hnd ρ0 (n+j) x y)
 | [],n,obs,hr=>by injection hr with hr;subst hr;exact⟨[],rfl,by simp,by simp⟩
 | p::ρ,n,obs,hr=>by
  have key:∀(ao:AO) (y:Nat×AO) (l:List (Nat×AO)),Ql σ.ob p=some ao->(∀x:Ent,x.nm=p->x.ao=ao->Hnd ρ0 n x ⟨y.1,y.2,x.val,x.fs⟩)->σ.handedN ρ0 (n+1) ρ=some l->obs=y::l->
    ∃eh:List Ent,eh.map Ent.key=obs/\(∀y∈eh,∃x∈en,∃j,(p::ρ)[j]?=some x.nm/\Hnd ρ0 (n+j) x y)/\(∀j q,(p::ρ)[j]?=some q->∃x∈en,x.nm=q/\∃y∈eh,Hnd ρ0 (n+j) x y):=by
   intro ao y l h1 h2 h3 h4
   subst h4
   obtain⟨eh,g1,g2,g3⟩:=QcI h ρ (n+1) l h3
   obtain⟨x,hx,hxn,hxa⟩:=h.ent h1
   have hh:=h2 x hxn hxa
   refine⟨⟨y.1,y.2,x.val,x.fs⟩::eh,by rw[Xas,g1];rfl,fun z hz=>?_,fun j q hq=>?_⟩
   ·rcases Xai.1 hz with rfl|hz
    ·exact⟨x,hx,0,by rw[hxn];rfl,hh⟩
    ·obtain⟨x',k1,j,k2,k3⟩:=g2 z hz
     exact⟨x',k1,j+1,by simpa using k2,by rw[show n+(j+1)=n+1+j by omega];exact k3⟩
   ·cases j with
    | zero=>
     simp only[List.getElem?_cons_zero,Xak]at hq
     exact⟨x,hx,hxn.trans hq,_,Xaa,hh⟩
    | succ j=>
     obtain⟨x',k1,k2,z,k3,k4⟩:=g3 j q (by simpa using hq)
     exact⟨x',k1,k2,z,Xad _ k3,by rw[show n+(j+1)=n+1+j by omega];exact k4⟩
  simp only[AS.handedN]at hr
  split at hr
  ·rename_i e es d hao
   split at hr
   ·rename_i l hl
    injection hr with hr
    refine key _ (500000+n,.row e es d) l hao (fun x hxn hxa=>⟨by rw[hxa];rfl,rfl,rfl,fun _ _ _ _=>hxa.symm,fun e' cs' h'=>(by rw[hxa]at h';cases h')⟩) hl hr.symm
   ·cases hr
  ·rename_i e cs hao
   split at hr
   ·rename_i cs' hcs
    split at hr
    ·rename_i l hl
     injection hr with hr
     refine key _ (1000000+n,.box e cs') l hao (fun x hxn hxa=>⟨by rw[hxa];rfl,rfl,rfl,fun e' es' d' h'=>(by rw[hxa]at h';cases h'),fun e' cs'' h'=>?_⟩) hl hr.symm
     rw[hxa]at h'
     injection h' with h1 h2
     subst h1;subst h2
     exact⟨cs',hcs,rfl⟩
    ·cases hr
   ·cases hr
  ·cases hr
section
variable {w:World} {en eh:List Ent} {I I':Nat->Prop} {ρ:List Nat}
mutual
theorem AV.shows_handN(hI:∀b,I b->I' b)(he:∀j p,ρ[j]?=some p->∀x∈en,x.nm=p->∃y∈eh,Hnd ρ j x y) :
  ∀(x y:AV) (u:Value),x.handN ρ=some y->x.shows w en I u->y.shows w eh I' u
 | .any,y,u,hy,_=>by injection hy with hy;subst hy;trivial
 | .d x,y,u,hy,h=>by
  injection hy with hy;subst hy
  obtain⟨F,h1,h2⟩:=h
  exact⟨F,h1,fun b hb=>hI b (h2 b hb)⟩
 | .nil,y,u,hy,h=>by injection hy with hy;subst hy;exact h
 | .row p,y,u,hy,h=>by
  simp only[AV.handN]at hy
  split at hy
  ·rename_i k hk
   injection hy with hy;subst hy
   obtain⟨x,hx,rfl,h1,h2⟩:=h
   obtain⟨k1,k2,k3⟩:=Xu hk
   rw[List.getD_eq_getElem?_getD,List.getElem?_eq_getElem k2,XaJ]at k3
   obtain⟨y,hy,g⟩:=he (k-500000) x.nm (by rw[List.getElem?_eq_getElem k2,k3]) x hx rfl
   refine⟨y,hy,?_,by rw[g.isRow];exact h1,by rw[g.val];exact h2⟩
   rw[g.nm,h1]
   show 500000+_=_
   omega
  ·cases hy
 | .ptr p o,y,u,hy,h=>by
  simp only[AV.handN]at hy
  split at hy
  ·rename_i k hk
   injection hy with hy;subst hy
   obtain⟨x,hx,rfl,h1,g,h2,h3⟩:=h
   obtain⟨k1,k2,k3⟩:=Xu hk
   rw[List.getD_eq_getElem?_getD,List.getElem?_eq_getElem k2,XaJ]at k3
   obtain⟨y,hy,g0⟩:=he (k-1000000) x.nm (by rw[List.getElem?_eq_getElem k2,k3]) x hx rfl
   refine⟨y,hy,?_,by rw[g0.isRow];exact h1,g,by rw[g0.val];exact h2,h3⟩
   rw[g0.nm,h1]
   show 1000000+_=_
   omega
  ·cases hy
 | .agg xs,y,u,hy,h=>by
  simp only[AV.handN]at hy
  split at hy
  ·rename_i ys hys
   injection hy with hy;subst hy
   obtain⟨us,h1,h2⟩:=h
   exact⟨us,h1,V5 hI he xs ys us hys h2⟩
  ·cases hy
 | .pr _ _ _,_,_,hy,_=>by cases hy
 | .pd e off,y,u,hy,h=>by
  injection hy with hy;subst hy
  obtain⟨b,o,us,F,h1,h2,h3,h4,h5⟩:=h
  exact⟨b,o,us,F,h1,h2,h3,hI b h4,fun c hc=>hI c (h5 c hc)⟩
 | .tup _,_,_,hy,_=>by cases hy
 | .sub _ _ _,_,_,hy,_=>by cases hy
 | .clo g xs,y,u,hy,h=>by
  simp only[AV.handN]at hy
  split at hy
  ·rename_i ys hys
   injection hy with hy;subst hy
   obtain⟨us,h1,h2⟩:=h
   exact⟨us,h1,V5 hI he xs ys us hys h2⟩
  ·cases hy
theorem V5(hI:∀b,I b->I' b)(he:∀j p,ρ[j]?=some p->∀x∈en,x.nm=p->∃y∈eh,Hnd ρ j x y) :
  ∀(xs ys:List AV) (us:List Value),QdG ρ xs=some ys->Qn w en I xs us->Qn w eh I' ys us
 | [],ys,us,hy,h=>by injection hy with hy;subst hy;exact h
 | x::xs,ys,us,hy,h=>by
  simp only[QdG]at hy
  split at hy
  ·rename_i y hy1
   split at hy
   ·rename_i ys' hys
    injection hy with hy;subst hy
    obtain⟨u,us',rfl,h1,h2⟩:=h
    exact⟨u,us',rfl,AV.shows_handN hI he x y u hy1 h1,V5 hI he xs ys' us' hys h2⟩
   ·cases hy
  ·cases hy
end
end
theorem QcQ{X:Cx}{σ:AS}{a:Act}{w:World}{en eh:List Ent}{I':Nat->Prop}{ρ:List Nat}(h:J2 X σ a w en)(hI:∀b,IM X en w b->I' b)(he:∀j p,ρ[j]?=some p->∀x∈en,x.nm=p->∃y∈eh,Hnd ρ j x y) :
  ∀{xs:List Operand} {ys:List AV},σ.handNA ρ xs=some ys->Qn w eh I' ys (xs.map a.eval)
 | [],ys,hx=>by injection hx with hx;subst hx;rfl
 | x::xs,ys,hx=>by
  simp only[AS.handNA]at hx
  split at hx
  ·rename_i y hy
   split at hx
   ·rename_i zs hzs
    injection hx with hx;subst hx
    exact⟨_,_,rfl,AV.shows_handN hI he _ _ _ hy (AS.ev_shows h x),QcQ h hI he hzs⟩
   ·cases hx
  ·cases hx
def QaE(ρ:List Nat)(fin:List (Nat×AO))(n:Nat):Bool:=bif inN ρ n then fin.any (fun y=>bif fre0 y.1 then false else Nat.beq (ρ.getD (y.1-1000000) 0) n)else true
def finO(t:Nat)(ρ:List Nat):List (Nat×AO)->List (Nat×AO)
 | []=>[]
 | (n,ao)::l=>(JJ t ρ n,ao.mapN (JJ t ρ))::finO t ρ l
theorem QmO(t:Nat)(ρ:List Nat):∀(l:List (Nat×AO)),finO t ρ l=l.map fun y=>(JJ t ρ y.1,y.2.mapN (JJ t ρ))
 | []=>rfl
 | (n,ao)::l=>by rw[finO,QmO t ρ l];rfl
def Qnc(f:Nat->Bool)(t:Nat)(ρ:List Nat)(ob fin:List (Nat×AO)):Bool:=YZ (fin.map fun y=>JJ t ρ y.1)&&fin.all fun y=>bif fre0 y.1 then YU f (JA t y.1) ob else true
section
variable {X:Cx} {σ:AS} {o:Oper} {K:AS->Prop} {t:Nat}
theorem QnA{ι:Type}{f:FuncId}{xs:List AV}{obs:List (Nat×AO)}{ok:ι->Prop}{rs:ι->List AV}{fin:ι->List (Nat×AO)}(ρ:List Nat)(hc:NCalls X.P f xs obs ok rs fin)
  (hx:∀a w en,J2 X σ a w en->∃us:List Value,(execOp a.eval o).run X.P w=(callFunc f us.toArray).run X.P w/\∀(eh:List Ent) (I':Nat->Prop),(∀b,IM X en w b->I' b)->(∀j p,ρ[j]?=some p->∀x∈en,x.nm=p->∃y∈eh,Hnd ρ j x y)->Qn w eh I' xs us)
  (hd:o.dst=some t) (hob:σ.handedN ρ 0 ρ=some obs) (hn:YZ ρ=true) (hno:W4 obs=true)
  (hf:∀i,ok i->Qnc X.fre t ρ σ.ob (fin i)=true) (ht:Nat.blt t σ.nt=true)
  (hK:∀i,ok i->K ⟨σ.nt,(t,(one (rs i)).mapN (JJ t ρ))::cutS (QaE ρ (fin i)) σ.sl,finO t ρ (fin i)++Ym (inN ρ) (QaE ρ (fin i)) σ.ob⟩):OpOk X o σ K:=by
 intro a w hr next Q bx
 obtain⟨en,h⟩:=hr
 have m0:=h.mem
 have hρ:=Wc hn
 obtain⟨eh,g1,g2,g3⟩:=QcI h ρ 0 obs hob
 simp only[XaZ]at g2 g3
 obtain⟨a4,a2⟩:=hc
 have aq:(eh.map Ent.nm).Nodup:=by
  have e:eh.map Ent.nm=obs.map Prod.fst:=by rw[<-g1,XaR];rfl
  rw[e];exact WC hno
 have ai:∀b,IM X en w b->Imm w (ZH (IM X en w) eh) (OH eh) eh w b:=fun b hb=>⟨.inl hb,hb.2.1,fun y c e=>by
  obtain⟨x,hx,j,_,g⟩:=g2 y c
  exact hb.2.2 x hx ((g.hd b).1 e)⟩
 have ak:∀j p,ρ[j]?=some p->∀x∈en,x.nm=p->∃y∈eh,Hnd ρ j x y:=fun j p hj x hx e=>by
  obtain⟨x',k1,r,y,k,k4⟩:=g3 j p hj
  have:=m0.ent_unique hx k1 (e.trans r.symm)
  subst this
  exact⟨y,k,k4⟩
 have bf:∀{j j':Nat} {p:Nat},ρ[j]?=some p->ρ[j']?=some p->j=j':=fun {j j' p} l h2=>by
  obtain⟨l1,e1⟩:=List.getElem?_eq_some_iff.1 l
  obtain⟨l2,e2⟩:=List.getElem?_eq_some_iff.1 h2
  exact(XcK (h₀:=l1) (h₁:=l2) hρ).1 (e1.trans e2.symm)
 have bg:∀x∈eh,∀y∈eh,x.nm≠y.nm->∀b,x.hd b->¬y.hd b:=fun x hx y c hne b hb u=>by
  obtain⟨x',k1,j,r,k⟩:=g2 x hx
  obtain⟨y',l1,j',l2,l3⟩:=g2 y c
  refine m0.hd_ne k1 l1 (fun e=>hne ?_) ((k.hd b).1 hb) ((l3.hd b).1 u)
  have:=m0.ent_unique k1 l1 e
  subst this
  rw[k.nm,l3.nm,bf r l2]
 have hm:Mem X.P w (ZH (IM X en w) eh) (OH eh) eh w:=by
  refine⟨rfl,rfl,rfl,Xaj _,fun _ _ _=>rfl,aq,?_,fun y c=>?_,?_,fun y c _ x hx e=>?_⟩
  ·have ab:=aq
   rw[List.Nodup,Xbn]at ab
   exact ab.imp_of_mem fun hx c hne=>bg _ hx _ c hne
  ·obtain⟨x,hx,j,r,k⟩:=g2 y c
   have aa:=m0.ok x hx
   unfold EntOk at aa
   split at aa
   ·rename_i e1 es dp ae
    obtain⟨z,us,l0,l1,l2,l3,l4,l5,l6,l7⟩:=aa
    unfold EntOk
    rw[k.row _ _ _ ae,ae]
    simp only
    rw[k.val,k.fs]
    refine⟨z,us,l0,l1,l2,l3,l4,fun hd b hb=>ai b (l5 hd b hb),fun b hb=>.inl ⟨y,c,.inl (by rw[k.val];exact hb)⟩,fun hd=>⟨(l7 hd).1,fun b hb=>⟨.inl ⟨y,c,.inr ⟨by rw[k.row _ _ _ ae,ae];exact hd,by rw[k.fs];exact hb⟩⟩,((l7 hd).2.1 b hb).2⟩,(l7 hd).2.2⟩⟩
   ·rename_i e1 cs ae
    obtain⟨l0,q,ay,l1,l2,l3,l4⟩:=aa
    obtain⟨bp,c1,c2⟩:=k.box _ _ ae
    unfold EntOk
    rw[c2]
    simp only
    rw[k.val,k.fs]
    exact⟨l0,q,ay,l1,.inl ⟨y,c,.inl (by rw[k.val,l1];rfl)⟩,l3,V5 ai ak cs bp _ c1 l4⟩
  ·have ab:=aq
   rw[List.Nodup,Xbn]at ab
   exact ab.imp_of_mem fun hx c hne d1 d2 b hb u=>bg _ hx _ c hne b (.inr ⟨d1,hb⟩) (.inr ⟨d2,u⟩)
  ·rw[Qeb aq hx c e]
 obtain⟨us,bh,b0⟩:=hx a w en h
 obtain⟨h2,h3⟩:=a2 w (IM X en w) eh us hm g1 (b0 eh _ ai ak)
 unfold Oper.wp
 rw[bh,h2,Oper.upon_enter]
 refine h3.mono fun e w' ⟨i,v,er,hi,he,m,hk,hr⟩=>?_
 subst he
 rw[hd]
 refine bx _ _ _ (hK i hi) ?_
 have bv:=a4 i hi
 have bc:=hf i hi
 simp only[Qnc,Xac]at bc
 obtain⟨f1,f2⟩:=bc
 have bq:=Wc f1
 let γ:=JJ t ρ
 let g:Ent->Ent:=fun y=>⟨γ y.nm,y.ao.mapN γ,y.val,y.fs⟩
 have ap:∀(y:Ent) (b:Nat),(g y).hd b↔y.hd b:=fun y b=>by
  show(blk y.val=some b\/((y.ao.mapN γ).deep=true/\b∈y.fs))↔_
  rw[AO.mapN_deep]
  rfl
 have bd:∀y∈er,y.key∈fin i:=fun y c=>hk.mem_iff.1 (Xaf.2 ⟨y,c,rfl⟩)
 have be:∀q∈fin i,∃y∈er,y.key=q:=fun q hq=>Xaf.1 (hk.mem_iff.2 hq)
 -- what came back under a handed name
 have al:∀y∈er,fre0 y.nm=false->∃x∈en,∃j,ρ[j]?=some x.nm/\y.nm=1000000+j/\γ y.nm=x.nm/\y.val=x.val/\y.ao.isRow=false/\x.ao.isRow=false:=fun y c d=>by
  have l:=XaD.1 bv y.key (bd y c)
  simp only[Ent.key,d,cond_false]at l
  split at l
  ·rename_i ao aj
   simp only[Xac,Xa6]at l
   have h4:=Jz aj
   rw[<-g1]at h4
   obtain⟨q,hq,e⟩:=Xaf.1 h4
   have e1:q.nm=y.nm:=congrArg Prod.fst e
   have e2:q.ao=ao:=congrArg Prod.snd e
   obtain⟨x,hx,j,r,k⟩:=g2 q hq
   have bi:x.ao.isRow=false:=by rw[<-k.isRow,e2];exact l.1
   have aw:y.nm=1000000+j:=by rw[<-e1,k.nm,bi];rfl
   have hv:y.val=q.val:=m.fix y c d q hq e1
   refine⟨x,hx,j,r,aw,?_,hv.trans k.val,l.2,bi⟩
   show JJ t ρ y.nm=x.nm
   unfold JJ
   rw[d,aw,cond_false,show 1000000+j-1000000=j by omega,List.getD_eq_getElem?_getD,r]
   rfl
  ·cases l
 have av:∀y∈er,fre0 y.nm=true->γ y.nm=JA t y.nm/\YU X.fre (JA t y.nm) σ.ob=true:=fun y c d=>by
  have l:=XaD.1 f2 y.key (bd y c)
  simp only[Ent.key,d,cond_true]at l
  refine⟨?_,l⟩
  show JJ t ρ y.nm=_
  unfold JJ
  rw[d];rfl
 have an:∀b,OH eh b->∃x∈en,inN ρ x.nm=true/\x.hd b:=fun b ⟨y,c,hb⟩=>by
  obtain⟨x,hx,j,r,k⟩:=g2 y c
  exact⟨x,hx,Qkl.2 (List.mem_of_getElem? r),(k.hd b).1 hb⟩
 have bw:∀x∈en,∀b,x.hd b->b<w.heap.size:=fun x hx b hb=>((m0.ok x hx).lth hb).1
 have bb:∀b,OH eh b->Frs X.w0 X.O b:=fun b hO=>by
  obtain⟨x,hx,_,hb⟩:=an b hO
  exact((m0.ok x hx).lth hb).2
 have a0:∀b,Frs w (OH eh) b->Frs X.w0 X.O b:=fun b hb=>by
  rcases hb with hb|hb
  ·exact bb b hb
  ·exact .inr (Xam m0.size hb)
 have am:∀{y:Ent},y∈er.map g->∃z∈er,y=g z:=fun c=>by
  obtain⟨z,hz,e⟩:=Xaf.1 c
  exact⟨z,hz,e.symm⟩
 have hs:QaQ X.P X.w0 X.Z X.O en w w' (inN ρ) (er.map g) (QaE ρ (fin i)):=by
  refine⟨m0,fun n hn=>?_,fun x hx hdl hpx=>?_,m.os,m.tape,m.output,m.size,fun b hb hno=>m.old b hb fun hO=>?_,fun y c b hb=>?_,fun y c x hx hdl e=>?_,?_,?_,fun y c=>?_⟩
  ·unfold QaE at hn
   cases bu:inN ρ n with
   | true=>rfl
   | false=>rw[bu]at hn;cases hn
  ·unfold QaE at hpx
   rw[hdl,cond_true,XaV]at hpx
   obtain⟨q,hq,ar⟩:=hpx
   cases d:fre0 q.1 with
   | true=>rw[d]at ar;cases ar
   | false=>
    rw[d,cond_false]at ar
    obtain⟨y,c,b2⟩:=be q hq
    have bj:y.nm=q.1:=congrArg Prod.fst b2
    obtain⟨x',k1,j,r,k,k4,k5,k6,k7⟩:=al y c (by rw[bj];exact d)
    have b1:x'.nm=x.nm:=by
     rw[<-k4,<-(Qg _ _).1 ar]
     show JJ t ρ y.nm=_
     unfold JJ
     rw[bj,d];rfl
    have:=m0.ent_unique k1 hx b1
    subst this
    refine⟨g y,Xaf.2 ⟨y,c,rfl⟩,k4,k5,?_,?_⟩
    ·show(y.ao.mapN γ).isRow=_
     rw[AO.mapN_isRow,k6,k7]
    ·show(y.ao.mapN γ).lens=_
     rw[AO.mapN_lens]
     have e1:∀ao:AO,ao.isRow=false->ao.lens=[]:=fun ao h=>by
      cases ao with
      | row=>cases h
      | box=>rfl
     rw[e1 _ k6,e1 _ k7]
  ·obtain⟨x,hx,a3,u⟩:=an b hO
   exact hno x hx a3 u
  ·obtain⟨z,hz,rfl⟩:=am c
   rcases((m.ok z hz).lth ((ap z b).1 hb)).2 with l|l
   ·exact .inr (an b l)
   ·exact .inl l
  ·obtain⟨z,hz,rfl⟩:=am c
   have e':x.nm=γ z.nm:=e
   cases d:fre0 z.nm with
   | true=>
    obtain⟨k1,r⟩:=av z hz d
    have:hasN (JA t z.nm) σ.ob=true:=Ji.2 ⟨x.key,h.ob.mem_iff.1 (Xaf.2 ⟨x,hx,rfl⟩),by rw[<-k1,<-e'];rfl⟩
    rw[(Q9 r).1]at this;cases this
   | false=>
    obtain⟨x',k1,j,r,k,k4,_⟩:=al z hz d
    rw[e',k4,Qkl.2 (List.mem_of_getElem? r)]at hdl
    cases hdl
  ·have e1:(er.map g).map Ent.nm=(er.map Ent.key).map fun y=>γ y.1:=by rw[XaR,XaR];rfl
   rw[e1]
   exact((hk.map _).nodup_iff).2 bq
  ·rw[Xbn]
   exact m.blks.imp fun {x y} hxy b hb u=>hxy b ((ap x b).1 hb) ((ap y b).1 u)
  ·obtain⟨z,hz,rfl⟩:=am c
   show X.Z.fx (γ z.nm) z.val
   cases d:fre0 z.nm with
   | true=>
    obtain⟨k1,r⟩:=av z hz d
    rw[k1]
    exact X.Z.lo _ _ (Q9 r).2
   | false=>
    obtain⟨x',k1,j,r,k,k4,k5,_⟩:=al z hz d
    rw[k4,k5]
    exact m0.fix x' k1
 have a1:∀b,Imm w (ZH (IM X en w) eh) (OH eh) er w' b->IM X (er.map g++Vp (inN ρ) (QaE ρ (fin i)) en) w' b:=fun b hb=>by
  refine⟨?_,hb.2.1,fun y c=>?_⟩
  ·rcases hb.1 with l|l|l
   ·exact(show IM X en w b from l).1
   ·exact .inr (bb b l)
   ·exact .inr (.inr (Xam m0.size l))
  ·rcases Xag.1 c with c|c
   ·obtain⟨z,hz,rfl⟩:=am c
    exact fun e=>hb.2.2 z hz ((ap z b).1 e)
   ·obtain⟨z,hz,bk,rfl⟩:=Zl c
    intro e
    have e:=(Ent.hd_cut _ z b).1 e
    rcases hb.1 with l|l|l
    ·exact(show IM X en w b from l).2.2 z hz e
    ·obtain⟨x,hx,a3,u⟩:=an b l
     exact m0.hd_ne hx hz (fun e0=>by rw[<-e0,a3]at bk;cases bk) u e
    ·have:=bw z hz b e
     omega
 have au:∀x∈er,∃y∈er.map g++Vp (inN ρ) (QaE ρ (fin i)) en,y.nm=γ x.nm/\y.val=x.val/\y.ao.isRow=x.ao.isRow/\y.ao.lens=x.ao.lens:=fun x hx=>
  ⟨g x,Xat _ (Xaf.2 ⟨x,hx,rfl⟩),rfl,rfl,AO.mapN_isRow _ _,AO.mapN_lens _ _⟩
 have h9:=h.swap2 hs (fun y c=>by
  obtain⟨z,hz,rfl⟩:=am c
  have aa:=m.ok z hz
  unfold EntOk at aa
  split at aa
  ·rename_i e es dp aj
   obtain⟨s,us,k0,k1,r,k,k4,k5,k6,k7⟩:=aa
   unfold EntOk
   simp only[g,aj,AO.mapN]
   exact⟨s,us,k0,k1,r,k,k4,fun hd b hb=>a1 b (k5 hd b hb),fun q hq=>a0 q (k6 q hq),fun hd=>⟨(k7 hd).1,fun b hb=>⟨a0 b ((k7 hd).2.1 b hb).1,((k7 hd).2.1 b hb).2⟩,(k7 hd).2.2⟩⟩
  ·rename_i e cs aj
   obtain⟨k0,q,ay,k1,r,k,k4⟩:=aa
   unfold EntOk
   simp only[g,aj,AO.mapN]
   exact⟨k0,q,ay,k1,a0 q r,k,WL a1 au cs _ k4⟩)
 have e2:(er.map g).map Ent.key=(er.map Ent.key).map fun y=>(γ y.1,y.2.mapN γ):=by simp only[XaR];rfl
 have bs:J2 X ⟨σ.nt,cutS (QaE ρ (fin i)) σ.sl,finO t ρ (fin i)++Ym (inN ρ) (QaE ρ (fin i)) σ.ob⟩ a w' _:=⟨h9.mem,h9.ob.trans (by
  rw[e2,QmO]
  exact List.Perm.append_right _ (hk.map _)),h9.defers,h9.size,h9.slots⟩
 exact⟨_,bs.put (AV.shows_mapN a1 au _ v hr) ht⟩
theorem Qln{ι:Type}{f:FuncId}{as:Array Operand}{ats:Array TypeId}{xs:List AV}{obs:List (Nat×AO)}{ok:ι->Prop}{rs:ι->List AV}{fin:ι->List (Nat×AO)}(ρ:List Nat)(hc:NCalls X.P f xs obs ok rs fin)
  (ho:o.op=.call { callee:=.value (.func f),args:=as,argTypes:=ats }) (hd:o.dst=some t) (hx:σ.handNA ρ as.toList=some xs) (hob:σ.handedN ρ 0 ρ=some obs) (hn:YZ ρ=true) (hno:W4 obs=true)
  (hf:∀i,ok i->Qnc X.fre t ρ σ.ob (fin i)=true) (ht:Nat.blt t σ.nt=true)
  (hK:∀i,ok i->K ⟨σ.nt,(t,(one (rs i)).mapN (JJ t ρ))::cutS (QaE ρ (fin i)) σ.sl,finO t ρ (fin i)++Ym (inN ρ) (QaE ρ (fin i)) σ.ob⟩):OpOk X o σ K:=
 QnA ρ hc (fun a w _ h=>⟨_,Wq ho a w,fun _ _ hI he=>QcQ h hI he hx⟩) hd hob hn hno hf ht hK
end
end
section

mutual
def AV.dat(ob:List (Nat×AO)):AV->AV
 | .row o=>match Ql ob o with
  | some (.row _ es _)=>.d (.sl es)
  | _=>.any
 | .nil=>.d (.sl [])
 | .agg xs=>.agg (datL ob xs)
 | .tup xs=>.tup (datL ob xs)
 | .d x=>.d x
 | _=>.any
def datL(ob:List (Nat×AO)):List AV->List AV
 | []=>[]
 | x::xs=>x.dat ob::datL ob xs
end
theorem QpR(ob:List (Nat×AO))(rs:List AV):(one rs).dat ob=one (datL ob rs):=by
 match rs with
 | []=>rfl
 | [x]=>rfl
 | x::y::zs=>rfl
section
variable {P:Program} {w0 w:World} {f:Nat->Bool} {Z:ZV f} {O:Nat->Prop} {en:List Ent} {I:Nat->Prop} {ob:List (Nat×AO)}
mutual
theorem AV.shows_dat(m:Mem P w0 Z O en w)(hk:(en.map Ent.key).Perm ob)(hI:∀b,Imm w0 Z O [] w b->I b):∀(x:AV) (u:Value),x.shows w en (Imm w0 Z O en w) u->(x.dat ob).shows w [] I u
 | .row o,u,h=>by
  simp only[AV.dat]
  split
  ·rename_i e es dp ho
   obtain⟨x,hx,hxn,_,rfl⟩:=h
   obtain⟨y,hy,e1⟩:=Xaf.1 (hk.mem_iff.2 (Jz ho))
   have:=m.ent_unique hy hx ((congrArg Prod.fst e1).trans hxn.symm)
   subst this
   have hya:y.ao=.row e es dp:=congrArg Prod.snd e1
   have hok:=m.ok y hy
   obtain⟨F,h1,h2⟩:=hok.data hya
   refine⟨F,h1,fun b hb=>hI b ?_⟩
   rcases h2 b hb with h3|h3
   ·unfold EntOk at hok
    rw[hya]at hok
    obtain⟨z,us,k0,k1,k2,k3,k4,k5,k6,k7⟩:=hok
    cases dp with
    | true=>exact⟨.inr ((k7 rfl).2.1 b h3).1,((k7 rfl).2.1 b h3).2.1,by simp⟩
    | false=>exact⟨(k5 rfl b h3).1,(k5 rfl b h3).2.1,by simp⟩
   ·exact⟨.inr (hok.lt h3).2,(hok.lt h3).1,by simp⟩
  ·trivial
 | .nil,u,h=>⟨[],⟨none,0,0,[],[],h,Xaj _,Xae _,fun _=>rfl,by simp,⟨rfl,rfl⟩,.inl ⟨rfl,rfl⟩⟩,by simp⟩
 | .d x,u,h=>by
  obtain⟨F,h1,h2⟩:=h
  exact⟨F,h1,fun b hb=>hI b ⟨(h2 b hb).1,(h2 b hb).2.1,by simp⟩⟩
 | .agg xs,u,h=>by
  obtain⟨us,h1,h2⟩:=h
  exact⟨us,h1,Qcv m hk hI xs us h2⟩
 | .tup xs,u,h=>by
  obtain⟨us,h1,h2⟩:=h
  exact⟨us,h1,Qcv m hk hI xs us h2⟩
 | .any,_,_=>trivial
 | .ptr _ _,_,_=>trivial
 | .pr _ _ _,_,_=>trivial
 | .pd _ _,_,_=>trivial
 | .clo _ _,_,_=>trivial
 | .sub _ _ _,_,_=>trivial
theorem Qcv(m:Mem P w0 Z O en w)(hk:(en.map Ent.key).Perm ob)(hI:∀b,Imm w0 Z O [] w b->I b):∀(xs:List AV) (us:List Value),Qn w en (Imm w0 Z O en w) xs us->Qn w [] I (datL ob xs) us
 | [],_,h=>h
 | x::xs,us,h=>by
  obtain⟨u,us',h1,h2,h3⟩:=h
  exact⟨u,us',h1,AV.shows_dat m hk hI x u h2,Qcv m hk hI xs us' h3⟩
end
end
theorem dc_m{ι:Type}{P:Program}{f:FuncId}{args:List AV}{ok:ι->Prop}{rs:ι->List AV}{obs' rob:ι->List (Nat×AO)}(h:MCalls P f args [] ok rs obs' rob):MCalls P f args [] ok (fun i=>datL (rob i++obs' i) (rs i)) (fun _=>[]) (fun _=>[]):=by
 refine⟨⟨trivial,fun _ _=>⟨trivial,trivial⟩⟩,fun w Zp eh us hm hk hs=>?_⟩
 obtain⟨a,b⟩:=h.2 w Zp eh us hm hk hs
 refine⟨a,b.mono fun e w' ⟨i,v,en,⟨hi,_⟩,he,m,hp,hr⟩=>⟨i,v,[],⟨hi,rfl⟩,he,⟨m.os,m.tape,m.output,m.size,m.old,by simp,by simp,by simp,by simp,by simp⟩,Xby _,?_⟩⟩
 rw[<-QpR]
 exact AV.shows_dat m hp (fun _ hb=>hb) _ _ hr
theorem dc_a{P:Program}{f:FuncId}{args rs:List AV}{rob:List (Nat×AO)}(h:ACalls P f args rs rob):MCalls P f args [] (fun _:Unit=>True) (fun _=>datL rob rs) (fun _=>[]) (fun _=>[]):=by
 refine⟨⟨trivial,fun _ _=>⟨trivial,trivial⟩⟩,fun w Zp eh us hm hk hs=>?_⟩
 have c:eh=[]:=by simpa using hk
 subst c
 obtain⟨g,i⟩:=h w us (Qd4 (Xaj _) (fun _ _=>rfl) (fun b hb=>hb.2.1) (fun x hx=>by cases hx) hs)
 refine⟨g,i.mono fun e w' ⟨v,en,he,m,hp,hr⟩=>⟨(),v,[],⟨trivial,rfl⟩,he,⟨m.os,m.tape,m.output,m.size,fun b hb _=>m.old b hb id,by simp,by simp,by simp,by simp,by simp⟩,Xby _,?_⟩⟩
 rw[<-QpR]
 exact AV.shows_dat m hp (fun b hb=>⟨by rcases hb.1 with h3|h3|h3;exact h3.elim;exact h3.elim;exact .inr (.inr h3),hb.2.1,by simp⟩) _ _ hr
def slAt:List D->Option (List D×List (List D)×List D)
 | []=>none
 | .sl es::l=>some ([],es,l)
 | d::l=>match slAt l with
  | some (a,es,b)=>some (d::a,es,b)
  | none=>none
theorem Qor:∀{el pre post:List D} {es:List (List D)},slAt el=some (pre,es,post)->el=pre++.sl es::post
 | [],_,_,_,h=>by cases h
 | x::xs,pre,post,q,h=>by
  have key:∀y:D,(match slAt xs with
   | some (a,q,b)=>some (y::a,q,b)
   | none=>none)=some (pre,q,post)->y::xs=pre++.sl q::post:=fun y hy=>by
   split at hy
   ·rename_i a q' b hr
    injection hy with hy
    injection hy with e1 hy
    injection hy with e2 e3
    subst e1;subst e2;subst e3
    rw[Qor hr];rfl
   ·cases hy
  cases x with
  | sl q'=>
   simp only[slAt,Xak,Xci]at h
   obtain⟨rfl,rfl,rfl⟩:=h
   rfl
  | _=>exact key _ h
section
variable {X:Cx} {σ:AS} {o:Oper} {K:AS->Prop} {t:Nat}
theorem Qtd{T e:TypeId}{x:Operand}{p i z1:Nat}{es es1:List (List D)}{el dpre dpost:List D}[ti:TI X.P T](ho:o.op=.load T x)(hd:o.dst=some t)(hx:σ.ev x=.pr p i 0)(hp:Ql σ.ob p=some (.row e es true))(hel:es[i]?=some el)(hsp:slAt el=some (dpre,es1,dpost))
  (hne:es1≠[]) (hz1:∀q∈es1,q.length=z1) (hf1:Wg es1=true) (hfp:dpre.all D.flat=true) (hfo:dpost.all D.flat=true) (hl:Nat.beq (dpre.length+(1+dpost.length)) ti.size=true) (ha:J5 ti.desc=true) (hf:YU X.fre t σ.ob=true) (ht:Nat.blt t σ.nt=true)
  (hK:∀e1,(X.P.info? e1).map (·.size)=some z1->K ⟨σ.nt,(t,.agg (dpre.map AV.d++.row t::dpost.map AV.d))::σ.sl,(p,.row e (es.set i (dpre++.un::dpost)) true)::(t,.row e1 es1 true)::Ym (isPQ p p) (fun _=>true) σ.ob⟩):OpOk X o σ K:=by
 intro a w hr next Q bs
 obtain⟨en,h1⟩:=hr
 have g:=Qor hsp
 have ac:el[dpre.length]?=some (.sl es1):=by rw[g];simp
 obtain⟨zp,hz,b2,r⟩:=h1.ent hp
 have ar:=h1.mem.ok zp hz
 unfold EntOk at ar
 rw[r]at ar
 obtain⟨s,us,k0,k1,k2,k3,k4,k5,k6,k7⟩:=ar
 obtain⟨b5,ax,bc⟩:=k7 rfl
 obtain⟨z',ag,e1,e2,g',z,e3,e4,e5,e6⟩:=QT h1 hx
 have:=h1.mem.ent_unique ag hz (e1.trans b2.symm)
 subst this
 rw[r]at e4 e5
 have f:el.length=s:=k3 el (List.mem_of_getElem? hel)
 have bv:z=s:=by
  have:=e4 el.length (Xaf.2 ⟨el,List.mem_of_getElem? hel,rfl⟩)
  rw[<-this,f]
 subst bv
 have ad:dpre.length<z:=by rw[<-f];exact(List.getElem?_eq_some_iff.1 ac).1
 have a4:i<es.length:=(List.getElem?_eq_some_iff.1 hel).1
 have bw:ti.size=z:=by rw[<-(Qg _ _).1 hl,<-f,g];simp;omega
 obtain⟨u,G,F1,F2,a8,ae,hF,ao⟩:=QeT k4 k3 hel ac
 obtain⟨vs,G2,a9,cy,bb⟩:=QgN k4 k3 hel
 have aw:vs.length=z:=by rw[Qy a9,f]
 obtain⟨A,c,q1,q2,q3,q4,q5⟩:=JK k2
 obtain⟨g0,q6⟩:=q5 (by omega)
 have br:g0=g':=by
  rw[q1,q6]at e3
  simp only[blk,Xak]at e3
  exact e3
 subst br
 have ap:∀j v,vs[j]?=some v->w.cell? ⟨g0,i*z+0+j,none⟩=some v:=fun j v m=>by
  have h2:=bb j v m
  have a5:=k2
  rw[q1,q6]at a5
  rw[a5.cellAt _ (by have:=(List.getElem?_eq_some_iff.1 h2).1;rw[k2.1]at this;omega)]
  exact h2
 have a7:(execOp a.eval o).run X.P w=.ok (.value (.agg vs.toArray)) w:=by
  have h4:=run_loadAt_mid (P:=X.P) w g0 (i*z+0) T vs ti.desc ap ti.und (by cases ct:ti.desc <;> simp_all[J5,TypeDesc.isRow]) (by rw[ti.sized,aw,bw])
  simp only[execOp,ho,e6,Sem.run_bind,h4,Result.andThen]
  rfl
 obtain⟨b0,bp,hG⟩:=Qeo ae hne hf1
 subst hG
 have bq:es.flatten[i*z+dpre.length]?=some (D.sl es1):=by
  rw[Qfb k1 k3]
  have e1:(i*z+dpre.length) / z=i:=by
   rw[Xcn,Nat.mul_add_div k1,Xcr ad,XbK]
  have e2:(i*z+dpre.length) % z=dpre.length:=by
   rw[Xcn,Nat.mul_add_mod,Xcs ad]
  rw[e1,e2,hel]
  exact ac
 obtain⟨a2,zn,vr,n1,n2,n3,n4⟩:=bc _ _ _ bq a8 hne
 have b3:zn=z1:=by
  cases es1 with
  | nil=>exact absurd rfl hne
  | cons d0 l=>rw[<-n3 d0 Xaa,hz1 d0 Xaa]
 subst b3
 have ba:repE w es1 vr []:=by
  obtain⟨A1,c1,z2,be,F',r1,r2,r3,r4,r5,r6,r7⟩:=ae
  rcases r7 with ⟨r7,_⟩|⟨_,b,o,rA,r8,r9,r10⟩
  ·exact absurd r7 hne
  ·have bo:F'=[]:=by injection r9 with _ r9;exact r9.symm
   subst bo
   have b1:z2=zn:=by
    cases es1 with
    | nil=>exact absurd rfl hne
    | cons d0 l=>rw[<-n3 d0 Xaa,r5 d0 Xaa]
   subst b1
   obtain⟨A3,c3,m1,m2,m3,m4,m5⟩:=JK n4
   obtain⟨g3,m6⟩:=m5 (Xbd.2 hne)
   rw[r1,rA]at m1
   injection m1 with m1 _ m7
   rw[m6]at m1
   injection m1 with m1
   injection m1 with m1 m8
   have:be=vr:=by
    refine List.ext_getElem? fun j=>?_
    by_cases m:j<es1.length*z2
    ·have h3:j<be.length:=by rw[Jh r6 r5];exact m
     have h4:=r10 j _ (List.getElem?_eq_getElem h3)
     rw[r1,rA,m8]at n4
     have n5:=n4
     rw[m1]at n5
     rw[List.getElem?_eq_getElem h3,<-h4,m1,m8,XaZ]
     exact(World.ownsRow.cellAt n5 j m)
    ·rw[List.getElem?_eq_none (by rw[Jh r6 r5];omega),List.getElem?_eq_none (by rw[n4.1];omega)]
   rw[<-this];exact r6
 have aa:b0∈z'.fs:=by rw[hF];simp
 have aj:(F1++[b0]++F2).Nodup:=by rw[<-hF];exact b5
 have a6:(F1++F2).Nodup:=Xbw (by rw[Xao];exact List.Sublist.append_left (List.sublist_append_right _ _) _) aj
 have bt:b0∉F1++F2:=fun hb=>by
  rw[Xao,Xbg]at aj
  rcases Xag.1 hb with hb|hb
  ·exact aj.2.2 b0 hb b0 (by simp) rfl
  ·have:=aj.2.1
   simp only[XbB,XaQ]at this
   exact this.1 hb
 have ab:∀b∈F1++F2,b∈z'.fs:=fun b hb=>by
  rw[hF]
  rcases List.mem_append.1 hb with hb|hb <;> simp[hb]
 have bx:u.oneCell'=true:=D.rep_one ae
 have av:=ao w .un [] (Xaj _) (fun _ _=>rfl) ⟨bx,rfl⟩
 have af:el.set dpre.length .un=dpre++.un::dpost:=by rw[g];simp
 rw[af]at av
 rw[Xa3]at av
 let es':=es.set i (dpre++.un::dpost)
 let x':Ent:=⟨p,.row e es' true,z'.val,F1++F2⟩
 let q:Ent:=⟨t,.row a2 es1 true,u,[]⟩
 have a3:∀x∈en,x.nm≠t:=fun x hx e=>by
  have:hasN t σ.ob=true:=Ji.2 ⟨x.key,h1.ob.mem_iff.1 (Xaf.2 ⟨x,hx,rfl⟩),e⟩
  rw[(Q9 hf).1]at this;cases this
 have bu:p≠t:=fun e=>a3 z' ag (e1.trans e)
 have al:(dpre++D.un::dpost).length=z:=by rw[<-af,Xaw];exact f
 have aq:(AO.row e es' true).lens=(AO.row e es true).lens:=by
  simp only[AO.lens,es',XbL]
  refine List.ext_getElem? fun k=>?_
  rw[List.getElem?_set]
  split
  ·rename_i hk
   subst hk
   rw[List.getElem?_map,hel,al,<-f]
   simp[a4]
  ·rfl
 have au:∀b,q.hd b->b=b0:=fun b hb=>by
  rcases hb with hb|⟨_,hb⟩
  ·have:blk u=some b:=hb
   rw[bp]at this
   injection this with this
   exact this.symm
  ·cases hb
 have ak:∀{y:Ent},y∈[x',q]->y=x'\/y=q:=fun hy=>by simpa using hy
 have hs:QaQ X.P X.w0 X.Z X.O en w w (isPQ p p) [x',q] (fun _=>true):=by
  refine⟨h1.mem,fun n hn=>Bool.noConfusion hn,fun x hx hd hpx=>⟨x',Xaa,?_⟩,rfl,rfl,rfl,Xaj _,fun b _ _=>rfl,fun y hy b hb=>?_,fun y hy x hx hd e=>?_,?_,?_,fun y hy=>?_⟩
  ·have:=h1.mem.ent_unique hx ag (((Q8.1 hd).elim id id).trans e1.symm)
   subst this
   exact⟨e1.symm,rfl,by rw[r];rfl,by rw[r];exact aq⟩
  ·refine .inr ⟨z',ag,Q8.2 (.inl e1),?_⟩
   rcases ak hy with rfl|rfl
   ·rcases hb with hb|⟨_,hb⟩
    ·exact .inl hb
    ·exact .inr ⟨by rw[r];rfl,ab b hb⟩
   ·rw[au b hb]
    exact .inr ⟨by rw[r];rfl,aa⟩
  ·rcases ak hy with rfl|rfl
   ·rw[Q8.2 (.inl e)]at hd;cases hd
   ·exact a3 x hx e
  ·simp only[Xas,Xbj,XaQ,XaH,Xcf,not_false_iff,List.nodup_nil,and_true]
   exact bu
  ·rw[Xau]
   refine⟨fun y hy b hb hb'=>?_,List.pairwise_singleton _ _⟩
   obtain rfl:y=q:=by simpa using hy
   have:=au b hb'
   subst this
   rcases hb with hb|⟨_,hb⟩
   ·exact(ax b aa).2.2 hb
   ·exact bt hb
  ·rcases ak hy with rfl|rfl
   ·show X.Z.fx p z'.val
    rw[<-e1]
    exact h1.mem.fix z' ag
   ·exact X.Z.lo _ _ (Q9 hf).2
 have h9:=h1.swap2 hs (fun y hy=>by
  rcases ak hy with rfl|rfl
  ·unfold EntOk
   refine⟨z,us,k0,k1,by rw[Xaw];exact k2,fun q hq=>?_,av,fun h=>Bool.noConfusion h,k6,fun _=>⟨a6,fun b hb=>ax b (ab b hb),fun j q u' m hu' hqne=>?_⟩⟩
   ·rcases Xbr hq with hq|rfl
    ·exact k3 q hq
    ·exact al
   ·have m:(es.set i (dpre++D.un::dpost)).flatten[j]?=some (D.sl q):=m
    rw[<-af,WO k3 hel ad,List.getElem?_set]at m
    split at m
    ·split at m
     ·simp at m
     ·cases m
    ·exact bc j q u' m hu' hqne
  ·unfold EntOk
   exact⟨zn,vr,n1,n2,n4,n3,ba,fun h=>Bool.noConfusion h,fun b hb=>by
    have:=au b (.inl hb)
    subst this
    exact(ax b aa).1,fun _=>⟨by simp[q],by simp[q],NstL.nilE ba⟩⟩)
 rw[Qa7]at h9
 have hv:Qn w ([x',q]++Vp (isPQ p p) (fun _=>true) en) (IM X ([x',q]++Vp (isPQ p p) (fun _=>true) en) w) (dpre.map AV.d++.row t::dpost.map AV.d) vs:=by
  have am:=a9
  rw[g]at am
  obtain⟨v1,v2,H1,H2,rfl,_,h2,h3⟩:=Qch am
  obtain⟨v3,v4,H3,H4,rfl,_,h4,h5⟩:=h3
  have:=JF h2 hfp;subst this
  have:=JF h5 hfo;subst this
  have bz:v3=u:=by
   have h6:=bb dpre.length v3 (by rw[List.getElem?_append_right (by rw[Qy h2];exact Xaj _),Qy h2,Xb4];rfl)
   rw[a8]at h6
   injection h6 with h6
   exact h6.symm
  subst bz
  refine Yg (WA h2 (by simp)) ⟨_,_,rfl,⟨q,by simp,rfl,rfl,rfl⟩,WA h5 (by simp)⟩
 have bm:=h9.put (t:=t) (v:=.agg (dpre.map AV.d++.row t::dpost.map AV.d)) (u:=.agg vs.toArray) ⟨vs,rfl,hv⟩ ht
 unfold Oper.wp
 rw[a7,Oper.upon_value,hd]
 exact bs _ _ _ (hK a2 n1) ⟨_,bm⟩
theorem Qi0{σ1 σ2:AS}(h:OpOk X o σ (fun σ'=>σ'=σ1))(hr:∀a w,Rel X σ1 a w->Rel X σ2 a w)(hK:K σ2):OpOk X o σ K:=fun a w hrel next Q hn=>
 h a w hrel next Q fun _ a' w' e hr'=>hn σ2 a' w' hK (hr a' w' (e▸hr'))
def tgtE(o:Oper)(rs:List (Nat×AV)):Option (List Nat×List Nat):=
 match o.op with
 | .buildSlice ..=>some (QfA rs,QfA rs)
 | .call c=>match c.callee with
  | .builtin b=>match b with
   | .append=>some (QfA rs,QfA rs)
   | _=>none
  | _=>none
 | _=>none
theorem QvI{T e eq:TypeId}{len q zq:Nat}{parts:Array (Nat×Operand)}{cs pre post:List AV}{dpre dpost:List D}{esq es:List (List D)}{dq:Bool}[te:TI X.P e](ho:o.op=.buildSlice T len parts)(hd:o.dst=some t)(hT:JD X T=some e)(hk:VS te)(hz1:te.zero.cells.toList.all Value.oneCell'=true)
  (hcs:QkH te.size (Qf2 te.zero len) (σ.evParts parts.toList)=some cs) (hsp:QkF cs=some (pre,q,post)) (hpre:YY pre=some dpre) (hpost:YY post=some dpost) (hq:Ql σ.ob q=some (.row eq esq dq))
  (hfp:dpre.all D.flat1=true) (hfo:dpost.all D.flat1=true) (hfq:Wg esq=true) (hl:Nat.beq (dpre.length+(1+dpost.length)) (len*te.size)=true) (hsm:Nat.ble (len*te.size) 16777216=true) (hes:QeK (chunk te.size len (dpre++.sl esq::dpost)) some=some es) (hf:YU X.fre t σ.ob=true) (ht:Nat.blt t σ.nt=true)
  (hi:(X.P.info? eq).map (·.size)=some zq) (hzq:Nat.blt 0 zq=true) (hfr:YU X.fre q ((t,.row e es true)::Ym (isPQ q q) (notN q) σ.ob)=true)
  (hK:K ⟨σ.nt,(t,.row t)::cutS (notN q) σ.sl,(q,.row eq [] true)::Ym (fun _=>false) (fun _=>true) ((t,.row e es true)::Ym (isPQ q q) (notN q) σ.ob)⟩):OpOk X o σ K:=
 Qi0 (VI ho hd hT hk hz1 hcs hsp hpre hpost hq hfp hfo hfq hl hsm hes hf ht rfl) (fun _ _ ⟨_,hr⟩=>⟨_,hr.addNil q hi (Jp hzq) hfr⟩) hK
theorem Qnf{s x:Operand}{T e:TypeId}{p q:Nat}{es es2:List (List D)}{n1 n2:Nat}[te:TI X.P e](ho:o.op=.call { callee:=.builtin .append,args:=#[s,x],argTypes:=#[T,T] })(hd:o.dst=some t)(hT:JD X T=some e)
  (hs:σ.ev s=.row p) (hp:Ql σ.ob p=some (.row e es true)) (hx:σ.ev x=.row q) (hq:Ql σ.ob q=some (.row e es2 true)) (hpq:Nat.beq p q=false) (hk:VS te) (hn1:es.length=n1) (hn2:es2.length=n2) (hb:n1+n2<=1099511627776) (hlo:X.fre p=true) (ht:Nat.blt t σ.nt=true)
  (hfr:YU X.fre q ((p,.row e (es++es2) true)::Ym (isPQ p q) (Qhl p q) σ.ob)=true)
  (hK:K ⟨σ.nt,(t,.row p)::cutS (Qhl p q) σ.sl,(q,.row e [] true)::Ym (fun _=>false) (fun _=>true) ((p,.row e (es++es2) true)::Ym (isPQ p q) (Qhl p q) σ.ob)⟩):OpOk X o σ K:=
 Qi0 (Yb ho hd hT hs hp hx hq hpq hk hn1 hn2 hb hlo ht rfl) (fun _ _ ⟨_,hr⟩=>⟨_,hr.addNil q te.sized (Jp hk.pos) hfr⟩) hK
end
end
section

section
variable {X:Cx} {σ:AS} {o:Oper} {K:AS->Prop} {t:Nat}
theorem Qjb{T e:TypeId}{x:Operand}{low high:Option Operand}{p m n i j:Nat}{es:List (List D)}{dp:Bool}{u v:Int}[te:TI X.P e](ho:o.op=.slice T x low high none)(hd:o.dst=some t)(hT:JD X T=some e)(hx:σ.ev x=.sub p 0 m)(hp:Ql σ.ob p=some (.row e es dp))(hn:es.length=n)
  (hlo:σ.low low=some u) (hi:u=(i:Int)) (hhi:σ.high m high=some v) (hj:v=(j:Int)) (hb:i<=j/\j<=n) (ht:Nat.blt t σ.nt=true) (hK:K (σ.put t (.sub p i j))):QOk X o σ K:=by
 subst hi;subst hj;subst hn
 refine Jm hd ht (fun a w en h=>?_) hK
 have hu:=QO hT
 obtain⟨y,hy,l,k,A,c,g1,g2,g4,g5,g6⟩:=QbP h hp
 obtain⟨y',d,r,e2,⟨_,e3⟩,A',n',c',z,s,e5,e6⟩:=QT h hx
 have:=h.mem.ent_unique d hy (r.trans l.symm)
 subst this
 rw[g1]at s
 injection s with f1 f2 f3
 subst f1;subst f3
 obtain⟨q,f,_,g,_⟩:=te.parts
 have b:=fun w'=>XT (P:=X.P) (w:=w') (isS:=true) (len:=m) (cap:=c) (Qht h hlo) (Qdk h hhi) hb.1 (Xam hb.2 g2)
 refine⟨subV A c te.size i j,fun w' _=>?_,y',d,r,e2,⟨hb.1,by rw[k];simpa [AO.lens] using hb.2⟩,A,_,c,te.size,g1,g6,rfl⟩
 have e7:a.eval x=.slice A m c:=by
  rw[e6,subV,Xbo,XbE,XbE]
  have:(if c=0 then A else A.map (·.add 0))=A:=by
   split
   ·rfl
   ·cases A with
    | none=>rfl
    | some q=>rw[XaW];congr 1
  rw[this]
 simp only[execOp,ho,e7,Instr.sliceAt,Sem.run_bind,run_underlying hu,Instr.slice,Xcy,b w',sizeOf,typeInfo,run_program,f,g,Sem.run_pure,Result.andThen]
 rfl
theorem Qsr{p:Nat}{ao ao':AO}{v:AV}(hp:Ql σ.ob p=some ao)(hd:o.dst=some t)(ht:Nat.blt t σ.nt=true)(hrow:ao'.isRow=ao.isRow)(hlens:ao'.lens=ao.lens)(hdeep:ao'.deep=ao.deep)
  (h:∀a w en y,J2 X σ a w en->y∈en->y.nm=p->y.ao=ao->EntOk X.P (Frs X.w0 X.O) w en (IM X en w) y->∃(g:Nat) (cur:Array Value) (u:Value),blk y.val=some g/\(execOp a.eval o).run X.P w=.ok (.value u) (w.setRow g cur)/\
   v.shows (w.setRow g cur) (⟨p,ao',y.val,y.fs⟩::JP (fun _=>true) p en) (IM X (⟨p,ao',y.val,y.fs⟩::JP (fun _=>true) p en) (w.setRow g cur)) u/\
   EntOk X.P (Frs X.w0 X.O) (w.setRow g cur) (⟨p,ao',y.val,y.fs⟩::JP (fun _=>true) p en) (IM X (⟨p,ao',y.val,y.fs⟩::JP (fun _=>true) p en) (w.setRow g cur)) ⟨p,ao',y.val,y.fs⟩)
  (hK:K ⟨σ.nt,(t,v)::σ.sl,(p,ao')::YT p σ.ob⟩):OpOk X o σ K:=by
 intro a w r next Q q
 obtain⟨en,f⟩:=r
 obtain⟨y,i,c,d⟩:=f.ent hp
 obtain⟨g,cur,u,j,k,m,l⟩:=h a w en y f i c d (f.mem.ok y i)
 have s:Qfi X.P X.w0 X.Z X.O en w (w.setRow g cur) p ⟨p,ao',y.val,y.fs⟩ (fun _=>true):=
  ⟨f.mem,fun _ _=>rfl,fun _ x hx e=>by
    have:=f.mem.ent_unique hx i (e.trans c.symm)
    subst this
    exact⟨e.symm,rfl,by rw[d];exact hrow,by rw[d];exact hlens⟩,rfl,rfl,rfl,by simp,
   fun b hb hno=>setRow_other w g b cur (fun e=>hno y i c (e▸j)),fun b hb=>.inr ⟨y,i,c,by
   rcases hb with hb|⟨hd,hb⟩
   ·exact .inl hb
   ·exact .inr ⟨by rw[d,<-hdeep];exact hd,hb⟩⟩,rfl,c▸f.mem.fix y i⟩
 have n:=f.swap_keep s l (fun hd z hz hzn hdz b hb=>by
  exact f.mem.apart_ne i hz (fun e=>hzn (e.symm.trans c)) (by rw[d,<-hdeep];exact hd) hdz hb)
 unfold Oper.wp
 rw[k,Oper.upon_value,hd]
 exact q _ _ _ hK ⟨_,n.put m ht⟩
theorem Qrg{s x:Operand}{T e:TypeId}{p i j n m:Nat}{es:List (List D)}{dp:Bool}[te:TI X.P e](ho:o.op=.call { callee:=.builtin .append,args:=#[s,x],argTypes:=#[T,T] })(hd:o.dst=some t)(hT:JD X T=some e)
  (hs:σ.ev s=.sub p 0 i) (hx:σ.ev x=.sub p j n) (hp:Ql σ.ob p=some (.row e es dp)) (hk:VS te) (hfl:Wg es=true) (hn:es.length=n) (hij:i<j/\j<=n) (hm:i+(n-j)=m) (ht:Nat.blt t σ.nt=true)
  (hK:K ⟨σ.nt,(t,.sub p 0 m)::σ.sl,(p,.row e (es.take i++(es.drop j++es.drop m)) dp)::YT p σ.ob⟩):OpOk X o σ K:=by
 subst hn;subst hm
 have bi:=Jp hk.pos
 intro a w hr
 obtain⟨bp,h0⟩:=id hr
 obtain⟨y1,bx,g1,g2,_,_,_,_,_,_,g3⟩:=QbP h0 hp
 have c:∀r∈es,r.length=te.size:=fun r d=>g3 _ (by rw[g2];exact Xaf.2 ⟨r,d,rfl⟩)
 have b:(es.take i++(es.drop j++es.drop (i+(es.length-j)))).length=es.length:=by
  simp only[Xab,Xah,XaP]
  omega
 refine Qsr (ao':=.row e (es.take i++(es.drop j++es.drop (i+(es.length-j)))) dp) (v:=.sub p 0 (i+(es.length-j))) hp hd ht rfl ?_ rfl (fun a w en z h1 hz hzn hza hok=>?_) hK a w hr
 ·simp only[AO.lens]
  refine List.ext_getElem? fun k=>?_
  have ay:∀(l:List (List D)),(∀r∈l,r.length=te.size)->∀k,(l.map List.length)[k]?=if k<l.length then some te.size else none:=fun l hl k=>by
   rw[List.getElem?_map]
   split
   ·rename_i hk
    rw[List.getElem?_eq_getElem hk,XaW,hl _ (Xbm hk)]
   ·rename_i hk
    rw[List.getElem?_eq_none (by omega)]
    rfl
  rw[ay _ c,ay,b]
  intro r d
  rcases Xag.1 d with h|h
  ·exact c _ (XaE h)
  ·rcases Xag.1 h with h|h
   ·exact c _ (XaM h)
   ·exact c _ (XaM h)
 ·unfold EntOk at hok
  rw[hza]at hok
  obtain⟨s',us,k0,k1,k2,k3,k4,k5,k6,k7⟩:=hok
  have a7:s'=te.size:=by rw[te.sized]at k0;simpa using k0.symm
  subst a7
  obtain⟨z1,ba,e1,e2,_,A1,n1,c1,s1,e4,e5,e6⟩:=QT h1 hs
  have:=h1.mem.ent_unique ba hz (e1.trans hzn.symm)
  subst this
  obtain⟨z2,bb,b1,b2,_,A2,n2,c2,s2,b4,b5,b6⟩:=QT h1 hx
  have:=h1.mem.ent_unique bb hz (b1.trans hzn.symm)
  subst this
  rcases k2.2 with ⟨hv,hn0⟩|⟨g,cap,cur,hv,hbg,hg,hnc,hcm,hcs,htake⟩
  ·omega
  ·rw[hv]at e4 b4
   injection e4 with e7 e8 e9
   injection b4 with b7 b8 b9
   subst e7;subst e9;subst b7;subst b9
   have ax:∀q,(∀l∈z2.ao.lens,l=q)->q=te.size:=fun q hq=>by
    obtain⟨r,d⟩:∃r,r∈es:=by
     cases es with
     | nil=>simp at hij;omega
     | cons q l=>exact⟨q,Xaa⟩
    rw[<-hq r.length (by rw[hza];exact Xaf.2 ⟨r,d,rfl⟩),c r d]
   have:=ax s1 e5;subst this
   have:=ax s2 b5;subst this
   have ab:=YE k4 (Yt hfl)
   rw[ab]at k4
   have ae:us.length=es.length*te.size:=k2.1
   have a4:cur.toList.length=cap*te.size:=by rw[Xax];exact hcs
   have a5:a.eval s=.slice (some ⟨g,0,none⟩) i cap:=by
    rw[e6,subV,Xbo,XbE,XbE]
    have:(if cap=0 then(some ⟨g,0,none⟩:Option Addr) else(some (⟨g,0,none⟩:Addr)).map (·.add 0))=some ⟨g,0,none⟩:=by
     split
     ·rfl
     ·rw[XaW];congr 1
    rw[this]
   obtain⟨news,hnews⟩:∃news,news=us.drop (j*te.size):=⟨_,rfl⟩
   have bw:j*te.size+(es.length-j)*te.size=es.length*te.size:=by rw[<-XaU];congr 1;omega
   have af:news.length=(es.length-j)*te.size:=by rw[hnews,XaP,ae];omega
   obtain⟨ad,had,hsrc⟩:∃ad:Addr,a.eval x=.slice (some ad) (es.length-j) (cap-j)/\∀k u,news[k]?=some u->w.cell? (ad.add k)=some u:=by
    by_cases am:cap=j
    ·refine⟨⟨g,0,none⟩,by rw[b6,subV,if_pos am],fun k u hu=>?_⟩
     have:news.length=0:=by rw[af,show es.length-j=0 by omega,Xbo]
     rw[Xbl.1 this]at hu
     simp at hu
    ·refine⟨⟨g,0+j*te.size,none⟩,by rw[b6,subV,if_neg am,XaW,Yl],fun k u hu=>?_⟩
     have as:us[j*te.size+k]?=some u:=by rw[<-hu,hnews,List.getElem?_drop]
     have au:=(List.getElem?_eq_some_iff.1 as).1
     rw[Yl,XaZ]
     have:=World.ownsRow.cellAt (show w.ownsRow 0 e te.size (.slice (some ⟨g,0,none⟩) es.length cap) es.length us by rw[<-hv];exact k2) (j*te.size+k) (by rw[ae]at au;exact au)
     rw[this]
     exact as
   have a2:∀v∈news,v.oneCell'=true:=fun v hv=>XB k4 v (XaM (hnews▸hv))
   have aq:0+i*te.size+0+news.length<=cur.size:=by
    rw[af,hcs,XaZ,XbK,<-XaU]
    exact XaI _ (by omega)
   have aw:=run_storeCells_at X.P g (0+i*te.size) e news 0 cur w hg aq a2
   obtain⟨qi,q1,_,q3,_⟩:=te.parts
   have a6:=run_firstCells_some (P:=X.P) w te.size (es.length-j) ad (es.length-j) (cap-j) news af hsrc
   have hu:=QO hT
   let cur':=(cur.toList.take (0+i*te.size+0)++news++cur.toList.drop (0+i*te.size+0+news.length)).toArray
   have av:(Builtin.append_ #[T,T] o.type #[a.eval s,a.eval x]).run X.P w=.ok (.slice (some ⟨g,0,none⟩) (i+(es.length-j)) cap) (w.setRow g cur'):=by
    rw[a5,had]
    have aj:i+(es.length-j)<=cap:=by omega
    simp[Builtin.append_,run_underlying hu,sizeOf,typeInfo,q1,q3,Builtin.lenOf,aj,a6,Addr.add_lit]
    simp only[XaZ]at aw
    rw[aw]
    simp[cur']
   refine⟨g,cur',.slice (some ⟨g,0,none⟩) (i+(es.length-j)) cap,by rw[hv];rfl,?_,⟨_,Xaa,rfl,rfl,⟨Xae _,by simp only[AO.lens,Xar,b];omega⟩,some ⟨g,0,none⟩,es.length,cap,te.size,hv,fun l hl=>?_,?_⟩,?_⟩
   ·simp only[execOp,ho,resolve,Sem.run_bind,Sem.run_pure,Result.andThen,invoke,builtin,Xbu,Xas,Xbj]
    rw[av]
   ·simp only[AO.lens]at hl
    obtain⟨r,d,rfl⟩:=Xaf.1 hl
    rcases Xag.1 d with h|h
    ·exact c _ (XaE h)
    ·rcases Xag.1 h with h|h
     ·exact c _ (XaM h)
     ·exact c _ (XaM h)
   ·rw[subV,Xbo,XbE,XbE]
    have:(if cap=0 then(some ⟨g,0,none⟩:Option Addr) else(some (⟨g,0,none⟩:Addr)).map (·.add 0))=some ⟨g,0,none⟩:=by
     split
     ·rfl
     ·rw[XaW];congr 1
    rw[this]
   ·-- the cells
    have ak:∀k,k<=es.length->repE w (es.take k) (us.take (k*te.size)) []/\repE w (es.drop k) (us.drop (k*te.size)) []:=fun k hk=>by
     have h4:=k4
     rw[<-XaK k es]at h4
     obtain⟨u1,u2,F1,F2,rfl,hF,r1,r2⟩:=Yq h4
     have a3:F1=[]/\F2=[]:=by
      have:=congrArg List.length hF
      simp only[XaS,Xab]at this
      exact⟨Xaz (by omega),Xaz (by omega)⟩
     obtain⟨rfl,rfl⟩:=a3
     have a9:u1.length=k*te.size:=by
      rw[Jh r1 (fun x hx=>c x (XaE hx)),Xah,Xcz hk]
     rw[<-a9,Xcb,Xcc]
     exact⟨r1,r2⟩
    have r1:=(ak i (by omega)).1
    have r2:=(ak j hij.2).2
    have r3:=(ak (i+(es.length-j)) (by omega)).2
    obtain⟨us',hus'⟩:∃us',us'=us.take (i*te.size)++(news++us.drop ((i+(es.length-j))*te.size)):=⟨_,rfl⟩
    have ai:repE w (es.take i++(es.drop j++es.drop (i+(es.length-j)))) us' []:=by
     rw[<-hnews]at r2
     have:=Yk r1 (Yk r2 r3)
     rw[hus']
     simpa using this
    have ag:=QI (w':=w.setRow g cur') (by simp) _ _ _ ai (by simp)
    have ar:i*te.size<=es.length*te.size:=XaI _ (by omega)
    have ah:(i+(es.length-j))*te.size<=es.length*te.size:=XaI _ (by omega)
    have y:(i+(es.length-j))*te.size=i*te.size+news.length:=by rw[af,XaU]
    have f:us'.length=es.length*te.size:=by
     rw[hus']
     have ac:=ah
     rw[y]at ac
     rw[Xab,Xab,Xah,XaP,ae,Xcz ar,y]
     omega
    have bv:es.length*te.size<=cap*te.size:=XaI _ hnc
    have an:cur'.toList=cur.toList.take (i*te.size)++news++cur.toList.drop (i*te.size+news.length):=by simp[cur']
    have ap:cur.toList=us++cur.toList.drop (es.length*te.size):=by rw[<-htake,XaK]
    have a8:cur'.toList.take (es.length*te.size)=us':=by
     rw[an,ap]
     have t1:(us++cur.toList.drop (es.length*te.size)).take (i*te.size)=us.take (i*te.size):=Xbe (by rw[ae];exact ar)
     have t2:(us++cur.toList.drop (es.length*te.size)).drop (i*te.size+news.length)=us.drop (i*te.size+news.length)++cur.toList.drop (es.length*te.size):=XbJ (by rw[ae,<-y];exact ah)
     rw[t1,t2,<-Xao,Xbe]
     ·rw[<-y,Xao,<-hus']
      exact Xay (by rw[f];exact Xaj _)
     ·rw[<-y,Xao,<-hus',f]
      exact Xaj _
    unfold EntOk
    refine⟨te.size,us',k0,k1,?_,fun r d=>?_,?_,by rw[ab];simp,k6,fun _=>⟨by rw[ab];simp,by rw[ab];simp,NstL.nilE ag⟩⟩
    ·refine⟨by rw[b];exact f,.inr ⟨g,cap,cur',by rw[hv,b],Xae _,setRow_heap w g cur cur' e _ hg,by rw[b];exact hnc,hcm,?_,by rw[b];exact a8⟩⟩
     have h5:cur'.toList.length=cap*te.size:=by
      have ac:=ah
      rw[y]at ac
      rw[an,Xab,Xab,Xah,XaP,a4]
      omega
     rw[<-h5,Xax]
    ·rcases Xag.1 d with h|h
     ·exact c _ (XaE h)
     ·rcases Xag.1 h with h|h
      ·exact c _ (XaM h)
      ·exact c _ (XaM h)
    ·rw[ab]
     exact ag
variable {Q:Exit->AS->Prop}
theorem QnN(s:Nat){p m:Nat}{e:TypeId}{es:List (List D)}{dp:Bool}{c:Code}(hv:look σ.sl s=.sub p 0 m)(hp:Ql σ.ob p=some (.row e es dp))(hfl:Wg es=true)(hm:m<=es.length)(hlo:X.fre p=true)
  (h:AWp X c Q ⟨σ.nt,(s,.row p)::cutS (notN p) σ.sl,(p,.row e (es.take m) dp)::Ym (isPQ p p) (notN p) σ.ob⟩):AWp X c Q σ:=by
 intro a w hr
 obtain⟨en,k⟩:=hr
 obtain⟨y,hy,aa,ah⟩:=k.ent hp
 have j:=k.mem.ok y hy
 unfold EntOk at j
 rw[ah]at j
 obtain⟨z,us,k0,k1,k2,k3,k4,k5,k6,k7⟩:=j
 have ae:=YE k4 (Yt hfl)
 rw[ae]at k4
 have u:=k.slots s
 rw[hv]at u
 obtain⟨y',v,e1,e2,_,A,n,cc,z',l,e5,e6⟩:=u
 have:=k.mem.ent_unique v hy (e1.trans aa.symm)
 subst this
 have i:a.tmps.getD s undef=.slice A m cc:=by
  rw[e6,subV,Xbo,XbE,XbE]
  have:(if cc=0 then A else A.map (·.add 0))=A:=by
   split
   ·rfl
   ·cases A with
    | none=>rfl
    | some q=>rw[XaW];congr 1
  rw[this]
 have d:blk (a.tmps.getD s undef)=blk y'.val:=by
  rw[i,l]
  cases A <;> rfl
 have au:m*z<=es.length*z:=XaI _ hm
 have r:w.ownsRow 0 e z (.slice A m cc) m (us.take (m*z)):=by
  refine⟨by rw[Xah,k2.1];omega,?_⟩
  rcases k2.2 with ⟨hv0,hn0⟩|⟨g,cap,cur,hv0,hbg,hg,hnc,hcm,hcs,htake⟩
  ·rw[hv0]at l
   injection l with f1 f2 f3
   subst f1;subst f3
   have:m=0:=by omega
   subst this
   exact .inl ⟨rfl,rfl⟩
  ·rw[hv0]at l
   injection l with f1 f2 f3
   subst f1;subst f3
   exact .inr ⟨g,cap,cur,rfl,hbg,hg,by omega,hcm,hcs,by rw[<-htake,XcD];congr 1;omega⟩
 have f:repE w (es.take m) (us.take (m*z)) []:=by
  have h4:=k4
  rw[<-XaK m es]at h4
  obtain⟨u1,u2,F1,F2,rfl,hF,r1,r2⟩:=Yq h4
  have ad:F1=[]:=by
   have:=congrArg List.length hF
   simp only[XaS,Xab]at this
   exact Xaz (by omega)
  subst ad
  have ag:u1.length=m*z:=by
   rw[Jh r1 (fun x hx=>k3 x (XaE hx)),Xah,Xcz hm]
  rw[<-ag,Xcb]
  exact r1
 let x':Ent:=⟨p,.row e (es.take m) dp,a.tmps.getD s undef,[]⟩
 have hs:QaQ X.P X.w0 X.Z X.O en w w (isPQ p p) [x'] (notN p):=by
  refine⟨k.mem,fun n hn=>Q8.2 (.inl ?_),fun x hx hd hpx=>?_,rfl,rfl,rfl,Xaj _,fun b _ _=>rfl,fun q hq b hb=>?_,fun q hq x hx hd e=>?_,by simp,by simp,fun q hq=>?_⟩
  ·unfold notN at hn
   exact(Qg _ _).1 (by simpa using hn)
  ·have:x.nm=p:=(Q8.1 hd).elim id id
   rw[this,Zd]at hpx;cases hpx
  ·obtain rfl:q=x':=by simpa using hq
   refine .inr ⟨y',v,Q8.2 (.inl aa),.inl ?_⟩
   rcases hb with hb|⟨_,hb⟩
   ·rw[<-d];exact hb
   ·cases hb
  ·obtain rfl:q=x':=by simpa using hq
   rw[Q8.2 (.inl e)]at hd;cases hd
  ·obtain rfl:q=x':=by simpa using hq
   exact X.Z.lo _ _ hlo
 have o:=k.swap2 hs (fun q hq=>by
  obtain rfl:q=x':=by simpa using hq
  unfold EntOk
  have af:(es.take m).length=m:=by rw[Xah];omega
  exact⟨z,us.take (m*z),k0,k1,by rw[af];show w.ownsRow 0 e z (a.tmps.getD s undef) m _;rw[i];exact r,fun el hel=>k3 el (XaE hel),f,fun _ b hb=>(by cases hb),fun g hg=>k6 g (by rw[<-d];exact hg),fun _=>⟨List.nodup_nil,fun b hb=>(by cases hb),NstL.nilE f⟩⟩)
 refine h a w ⟨_,o.mem,o.ob,o.defers,o.size,fun t=>?_⟩
 simp only[QQ]
 split
 ·rename_i e1
  subst e1
  exact⟨x',by simp,rfl,rfl,rfl⟩
 ·exact o.slots t
def renN(p q n:Nat):Nat:=bif Nat.beq n p then q else n
theorem Yh(p q:Nat){c:Code}(hf:YU X.fre q σ.ob=true)
  (h:AWp X c Q ⟨σ.nt,σ.sl.map fun y=>(y.1,y.2.mapN (renN p q)),σ.ob.map fun y=>(renN p q y.1,y.2.mapN (renN p q))⟩):AWp X c Q σ:=by
 intro a w hr
 obtain⟨f,n⟩:=hr
 have m:=n.mem
 let γ:=renN p q
 let g:Ent->Ent:=fun y=>⟨γ y.nm,y.ao.mapN γ,y.val,y.fs⟩
 have aa:∀x∈f,x.nm≠q:=fun x hx e=>by
  have:hasN q σ.ob=true:=Ji.2 ⟨x.key,n.ob.mem_iff.1 (Xaf.2 ⟨x,hx,rfl⟩),e⟩
  rw[(Q9 hf).1]at this;cases this
 have hγ:∀x∈f,(x.nm=p/\γ x.nm=q)\/(x.nm≠p/\γ x.nm=x.nm):=fun x hx=>by
  show(_/\renN p q x.nm=q)\/(_/\renN p q x.nm=x.nm)
  unfold renN
  cases hb:Nat.beq x.nm p with
  | true=>exact .inl ⟨(Qg _ _).1 hb,rfl⟩
  | false=>exact .inr ⟨fun e=>(by rw[(Qg _ _).2 e]at hb;cases hb),rfl⟩
 have ab:∀x∈f,∀y∈f,γ x.nm=γ y.nm->x.nm=y.nm:=fun x hx y i e=>by
  rcases hγ x hx with ⟨h2,d⟩|⟨h2,d⟩ <;> rcases hγ y i with ⟨h4,h5⟩|⟨h4,h5⟩
  ·rw[h2,h4]
  ·exact absurd (h5.symm.trans (e.symm.trans d)) (aa y i)
  ·exact absurd (d.symm.trans (e.trans h5)) (aa x hx)
  ·rw[<-d,<-h5,e]
 have r:∀(y:Ent) (b:Nat),(g y).hd b↔y.hd b:=fun y b=>by
  show(blk y.val=some b\/((y.ao.mapN γ).deep=true/\b∈y.fs))↔_
  rw[AO.mapN_deep]
  rfl
 have hI:∀b,IM X f w b->IM X (f.map g) w b:=fun b hb=>⟨hb.1,hb.2.1,fun y i e=>by
  obtain⟨z,u,rfl⟩:=Xaf.1 i
  exact hb.2.2 z u ((r z b).1 e)⟩
 have hm:∀x∈f,∃y∈f.map g,y.nm=γ x.nm/\y.val=x.val/\y.ao.isRow=x.ao.isRow/\y.ao.lens=x.ao.lens:=fun x hx=>⟨g x,Xaf.2 ⟨x,hx,rfl⟩,rfl,rfl,AO.mapN_isRow _ _,AO.mapN_lens _ _⟩
 refine h a w ⟨f.map g,⟨m.os,m.tape,m.output,m.size,m.old,?_,?_,?_,?_,?_⟩,?_,n.defers,n.size,fun t=>?_⟩
 ·have d:=m.names
  rw[XaR]
  unfold List.Nodup at d ⊢
  rw[Xbn]at d ⊢
  exact d.imp_of_mem fun hx i hxy e=>hxy (ab _ hx _ i e)
 ·rw[Xbn]
  exact m.blks.imp fun {x y} hxy b hb hb'=>hxy b ((r x b).1 hb) ((r y b).1 hb')
 ·intro y i
  obtain⟨z,u,rfl⟩:=Xaf.1 i
  have j:=m.ok z u
  unfold EntOk at j
  split at j
  ·rename_i e es dp o
   obtain⟨s,us,k0,k1,k2,k3,k4,k5,k6,k7⟩:=j
   unfold EntOk
   simp only[g,o,AO.mapN]
   exact⟨s,us,k0,k1,k2,k3,k4,fun hd b hb=>hI b (k5 hd b hb),k6,k7⟩
  ·rename_i e cs o
   obtain⟨k0,q,ac,k1,k2,k3,k4⟩:=j
   unfold EntOk
   simp only[g,o,AO.mapN]
   exact⟨k0,q,ac,k1,k2,k3,WL hI hm cs _ k4⟩
 ·rw[Xbn]
  exact m.apart.imp fun {x y} hxy n h2 b hb hb'=>hxy (by rw[<-AO.mapN_deep γ];exact n) (by rw[<-AO.mapN_deep γ];exact h2) b hb hb'
 ·intro y i
  obtain⟨z,u,rfl⟩:=Xaf.1 i
  show X.Z.fx (γ z.nm) z.val
  rcases hγ z u with ⟨_,d⟩|⟨_,d⟩
  ·rw[d];exact X.Z.lo _ _ (Q9 hf).2
  ·rw[d];exact m.fix z u
 ·have e1:(f.map g).map Ent.key=(f.map Ent.key).map fun y=>(γ y.1,y.2.mapN γ):=by simp only[XaR];rfl
  rw[e1]
  exact n.ob.map _
 ·have key:∀(sl:List (Nat×AV)) (t:Nat),look (sl.map fun y=>(y.1,y.2.mapN γ)) t=(look sl t).mapN γ:=fun sl=>by
   induction sl with
   | nil=>intro t;rfl
   | cons y l ih=>
    intro t
    obtain⟨k,v⟩:=y
    simp only[Xas,QQ]
    split
    ·rfl
    ·exact ih t
  show(look (σ.sl.map fun y=>(y.1,y.2.mapN (renN p q))) t).shows _ _ _ _
  rw[key]
  exact AV.shows_mapN hI hm _ _ (n.slots t)
end
end
end Go.Proofs.YtkdniahincpmaaaGreat
