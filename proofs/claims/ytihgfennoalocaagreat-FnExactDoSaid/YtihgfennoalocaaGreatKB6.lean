/-
  The walk over abstract states: calls that use up the rows that they are handed and write the boxes; the contract, entry and return.
-/
import Derived.Test.YtihgfennoalocaaGreatKB5
set_option maxRecDepth 100000
set_option maxHeartbeats 16000000
namespace Go.Proofs.YtihgfennoalocaaGreat
open Go Go.RowKit
section

def AO.mapN(γ:Nat->Nat):AO->AO
 | .box e cs=>.box e (Qa5 γ cs)
 | x=>x
theorem AO.mapN_isRow(γ:Nat->Nat)(x:AO):(x.mapN γ).isRow=x.isRow:=by cases x <;> rfl
theorem AO.mapN_lens(γ:Nat->Nat)(x:AO):(x.mapN γ).lens=x.lens:=by cases x <;> rfl
theorem AO.mapN_deep(γ:Nat->Nat)(x:AO):(x.mapN γ).deep=x.deep:=by cases x <;> rfl
def Qu0(obs fin:List (Nat×AO)):Bool:=fin.all fun y=>bif fre0 y.1 then true else match Qm obs y.1 with
 | some ao=>!ao.isRow&&!y.2.isRow
 | none=>false
def NCalls{ι:Type}(P:Program)(f:FuncId)(args:List AV)(obs:List (Nat×AO))(ok:ι->Prop)(rs:ι->List AV)(fin:ι->List (Nat×AO)):Prop:=
 (∀i,ok i->Qu0 obs (fin i)=true)/\
 ∀(w:World) (Zp:Nat->Prop) (eh:List Ent) (us:List Value),Mem P w (ZH Zp eh) (OH eh) eh w->eh.map Ent.key=obs->Qn w eh (Imm w (ZH Zp eh) (OH eh) eh w) args us->
  (∀w',(callFunc f us.toArray).run P w'=.ok (.enter f us.toArray) w')/\
  Calls P f us.toArray w fun e w'=>∃i v en,ok i/\e=.returned v/\Mem P w (ZH Zp eh) (OH eh) en w'/\(en.map Ent.key).Perm (fin i)/\(one (rs i)).shows w' en (Imm w (ZH Zp eh) (OH eh) en w') v
section
variable {w:World} {en en':List Ent} {I I':Nat->Prop} {γ:Nat->Nat} {p:Nat->Bool}
mutual
theorem AV.shows_un(hI:∀b,I b->I' b)(he:∀n,p n=true->∀x∈en,x.nm=γ n->∃y∈en',y.nm=n/\y.val=x.val/\y.ao.isRow=x.ao.isRow/\y.ao.lens=x.ao.lens):∀(x:AV) (u:Value),x.okp p=true->(x.mapN γ).shows w en I u->x.shows w en' I' u
 | .any,_,_,_=>trivial
 | .d x,u,_,h=>by
  obtain⟨F,h1,h2⟩:=h
  exact⟨F,h1,fun b hb=>hI b (h2 b hb)⟩
 | .nil,_,_,h=>h
 | .row o,u,hp,h=>by
  obtain⟨x,hx,h0,h1,h2⟩:=h
  obtain⟨y,hy,g1,g2,g3,_⟩:=he o hp x hx h0
  exact⟨y,hy,g1,by rw[g3];exact h1,by rw[g2];exact h2⟩
 | .ptr o off,u,hp,h=>by
  obtain⟨x,hx,h0,h1,g,h2,h3⟩:=h
  obtain⟨y,hy,g1,g2,g3,_⟩:=he o hp x hx h0
  exact⟨y,hy,g1,by rw[g3];exact h1,g,by rw[g2];exact h2,h3⟩
 | .pr o i off,u,hp,h=>by
  obtain⟨x,hx,h0,h1,g,z,h2,h3,h4,h5⟩:=h
  obtain⟨y,hy,g1,g2,g3,g4⟩:=he o hp x hx h0
  exact⟨y,hy,g1,by rw[g3];exact h1,g,z,by rw[g2];exact h2,by rw[g4];exact h3,by rw[g4];exact h4,h5⟩
 | .pd e off,u,_,h=>by
  obtain⟨b,o,us,F,h1,h2,h3,h4,h5⟩:=h
  exact⟨b,o,us,F,h1,h2,h3,hI b h4,fun c hc=>hI c (h5 c hc)⟩
 | .agg xs,u,hp,h=>by
  obtain⟨us,h1,h2⟩:=h
  exact⟨us,h1,ZG hI he xs us hp h2⟩
 | .tup xs,u,hp,h=>by
  obtain⟨us,h1,h2⟩:=h
  exact⟨us,h1,ZG hI he xs us hp h2⟩
 | .clo g xs,u,hp,h=>by
  obtain⟨us,h1,h2⟩:=h
  exact⟨us,h1,ZG hI he xs us hp h2⟩
 | .sub o i j,u,hp,h=>by
  obtain⟨x,hx,h0,h1,h2,A,n,c,z,h3,h4,h5⟩:=h
  obtain⟨y,hy,g1,g2,g3,g4⟩:=he o hp x hx h0
  exact⟨y,hy,g1,by rw[g3];exact h1,by rw[g4];exact h2,A,n,c,z,by rw[g2];exact h3,by rw[g4];exact h4,h5⟩
theorem ZG(hI:∀b,I b->I' b)(he:∀n,p n=true->∀x∈en,x.nm=γ n->∃y∈en',y.nm=n/\y.val=x.val/\y.ao.isRow=x.ao.isRow/\y.ao.lens=x.ao.lens):∀(xs:List AV) (us:List Value),okpL p xs=true->Qn w en I (Qa5 γ xs) us->Qn w en' I' xs us
 | [],_,_,h=>h
 | x::xs,us,hp,h=>by
  obtain⟨u,us',h1,h2,h3⟩:=h
  simp only[okpL,Xaf]at hp
  exact⟨u,us',h1,AV.shows_un hI he x u hp.1 h2,ZG hI he xs us' hp.2 h3⟩
end
end
def gamN(ρ:List Nat)(n:Nat):Nat:=bif fre0 n then ρ.getD n 0 else n
def Qlc(σ:AS)(ρ:List Nat):List (Nat×AO)->Prop
 | []=>True
 | (n,.row e es d)::l=>Qm σ.ob (gamN ρ n)=some (.row e es d)/\Qlc σ ρ l
 | (n,.box e cs)::l=>Qm σ.ob (gamN ρ n)=some (.box e (Qa5 (gamN ρ) cs))/\Qlc σ ρ l
def finB(ρ:List Nat)(rs:List AV)(fin:List (Nat×AO)):Bool:=
 YI (fin.map fun y=>gamN ρ y.1)&&Wy fin&&(fin.all fun y=>y.2.okp fun n=>hasN n fin)&&okpL (fun n=>hasN n fin) rs
theorem Qkx{X:Cx}{σ:AS}{a:Act}{w:World}{en:List Ent}(h:JO X σ a w en){ρ:List Nat}:∀{fin:List (Nat×AO)},Qlc σ ρ fin->
  ∃er:List Ent,er.map Ent.key=fin/\∀y∈er,∃x∈en,x.nm=gamN ρ y.nm/\y.val=x.val/\y.fs=x.fs/\x.ao=y.ao.mapN (gamN ρ)
 | [],_=>⟨[],rfl,by simp⟩
 | (n,ao)::l,hf=>by
  have key:Qm σ.ob (gamN ρ n)=some (ao.mapN (gamN ρ))/\Qlc σ ρ l:=by cases ao <;> exact hf
  obtain⟨er,g1,g2⟩:=Qkx h key.2
  obtain⟨x,hx,hxn,hxa⟩:=h.ent key.1
  refine⟨⟨n,ao,x.val,x.fs⟩::er,by rw[Xaw,g1];rfl,fun y hy=>?_⟩
  rcases Xaj.1 hy with rfl|hy
  ·exact⟨x,hx,hxn,rfl,rfl,hxa⟩
  ·exact g2 y hy
def RetN{ι:Type}(X:Cx)(fn:Func)(rs:ι->List AV)(fin:ι->List (Nat×AO))(i:ι)(ρ:List Nat)(σ:AS):Prop:=
 finB ρ (rs i) (fin i)=true/\Qa3 X σ fn.results.toList (Qa5 (gamN ρ) (rs i))/\Qlc σ ρ (fin i)
def retN{ι:Type}(X:Cx)(fn:Func)(ok:ι->Prop)(rs:ι->List AV)(fin:ι->List (Nat×AO)):Exit->AS->Prop
 | .normal,σ|.ret,σ=>∃i ρ,ok i/\RetN X fn rs fin i ρ σ
 | _,_=>False
theorem Qto(γ:Nat->Nat)(rs:List AV):(one rs).mapN γ=one (Qa5 γ rs):=by
 match rs with
 | []=>rfl
 | [x]=>rfl
 | x::y::zs=>rfl
theorem QtB(p:Nat->Bool)(rs:List AV)(h:okpL p rs=true):(one rs).okp p=true:=by
 match rs,h with
 | [],_=>rfl
 | [x],h=>simpa [okpL,one] using h
 | x::y::zs,h=>exact h
theorem QhT{γ:Nat->Nat}:∀{l:List (Nat×AO)},(l.map fun y=>γ y.1).Nodup->∀x∈l,∀y∈l,γ x.1=γ y.1->x.1=y.1
 | a::l,h,x,hx,y,hy,e=>by
  rw[Xaw,XaY]at h
  rcases Xaj.1 hx with rfl|hx' <;> rcases Xaj.1 hy with rfl|hy'
  ·rfl
  ·exact absurd (Xad.2 ⟨y,hy',e.symm⟩) h.1
  ·exact absurd (Xad.2 ⟨x,hx',e⟩) h.1
  ·exact QhT h.2 x hx' y hy' e
theorem Qmp{ι:Type}{P:Program}{w0:World}{Z:ZV fre0}{O:Nat->Prop}{tt:(T:TypeId)->Option (TI P T)}{fn:Func}{ok:ι->Prop}{rs:ι->List AV}{fin:ι->List (Nat×AO)}{i:ι}{ρ:List Nat}{σ:AS}{a:Act}{w:World}
  (hok:ok i) (hr:RetN ⟨P,w0,fre0,Z,O,tt⟩ fn rs fin i ρ σ) (h:Rel ⟨P,w0,fre0,Z,O,tt⟩ σ a w) :
  a.defers=[]/\∃v,(results fn a.tmps).run P w=.ok v w/\∃i v' en,ok i/\Ending.returned v=.returned v'/\Mem P w0 Z O en w/\(en.map Ent.key).Perm (fin i)/\(one (rs i)).shows w en (Imm w0 Z O en w) v':=by
 obtain⟨en,h1⟩:=h
 obtain⟨r1,r3,r4⟩:=hr
 simp only[finB,Xaf]at r1
 obtain⟨⟨⟨q1,q2⟩,q3⟩,q4⟩:=r1
 obtain⟨us,h2,h3⟩:=WW h1 _ _ r3
 obtain⟨er,g1,g2⟩:=Qkx h1 r4
 have m:=h1.mem
 have q1':=YR q1
 have q2':=Wc q2
 have hfm:∀y∈er,y.key∈fin i:=fun y hy=>g1▸Xad.2 ⟨y,hy,rfl⟩
 have hnm:(er.map Ent.nm).Nodup:=by
  have e:er.map Ent.nm=(fin i).map Prod.fst:=by rw[<-g1,XaS];rfl
  rw[e];exact q2'
 have hgn:∀x∈er,∀y∈er,gamN ρ x.nm=gamN ρ y.nm->x.nm=y.nm:=fun x hx y hy e=>QhT q1' x.key (hfm x hx) y.key (hfm y hy) e
 have hdp:∀{x y:Ent},y.val=x.val->y.fs=x.fs->x.ao=y.ao.mapN (gamN ρ)->∀b,y.hd b↔x.hd b:=fun {x y} e1 e2 e3 b=>by
  unfold Ent.hd
  rw[e1,e2,e3,AO.mapN_deep]
 have hpw:∀x∈er,∀y∈er,x.nm≠y.nm->∀b,x.hd b->¬y.hd b:=fun x hx y hy hne b hb hb'=>by
  obtain⟨x',k1,k2,k3,k4,k5⟩:=g2 x hx
  obtain⟨y',l1,l2,l3,l4,l5⟩:=g2 y hy
  exact m.hd_ne k1 l1 (fun e=>hne (hgn x hx y hy (by rw[<-k2,<-l2,e]))) ((hdp k3 k4 k5 b).1 hb) ((hdp l3 l4 l5 b).1 hb')
 have hI:∀b,Imm w0 Z O en w b->Imm w0 Z O er w b:=fun b hb=>⟨hb.1,hb.2.1,fun y hy e=>by
  obtain⟨x',k1,k2,k3,k4,k5⟩:=g2 y hy
  exact hb.2.2 x' k1 ((hdp k3 k4 k5 b).1 e)⟩
 have hun:∀n,hasN n (fin i)=true->∀x∈en,x.nm=gamN ρ n->∃y∈er,y.nm=n/\y.val=x.val/\y.ao.isRow=x.ao.isRow/\y.ao.lens=x.ao.lens:=fun n hn x hx e=>by
  obtain⟨q,hq,rfl⟩:=Q9.1 hn
  rw[<-g1]at hq
  obtain⟨y,hy,rfl⟩:=Xad.1 hq
  obtain⟨x',k1,k2,k3,k4,k5⟩:=g2 y hy
  have:=m.ent_unique hx k1 (e.trans k2.symm)
  subst this
  exact⟨y,hy,rfl,k3,by rw[k5,AO.mapN_isRow],by rw[k5,AO.mapN_lens]⟩
 refine⟨h1.defers,(if h:us.length=1 then us[0]else .tuple us.toArray),?_,i,_,er,hok,rfl,⟨m.os,m.tape,m.output,m.size,m.old,hnm,?_,?_,?_,?_⟩,by rw[g1],?_⟩
 ·have e:results fn a.tmps=(do let vs <-fn.results.mapM (Zk a.tmps);pure (if h:vs.size=1 then vs[0]else .tuple vs)):=rfl
  have e2:fn.results.mapM (Zk a.tmps)=(do let l <-fn.results.toList.mapM (Zk a.tmps);pure l.toArray):=by
   rw[bind_pure_comp,<-XcB]
  rw[e,e2]
  simp only[Sem.run_bind,h2,Result.andThen,Sem.run_pure]
  simp
 ·rw[List.Nodup,Xbg]at hnm
  exact hnm.imp_of_mem fun hx hy hne=>hpw _ hx _ hy hne
 ·intro y hy
  obtain⟨x,k1,k2,k3,k4,k5⟩:=g2 y hy
  have hok:=m.ok x k1
  unfold EntOk at hok ⊢
  rw[k5]at hok
  cases hya:y.ao with
  | row e es dp=>
   rw[hya]at hok
   obtain⟨z,vs,j0,j1,j2,j3,j4,j5,j6,j7⟩:=hok
   simp only
   rw[k3,k4]
   exact⟨z,vs,j0,j1,j2,j3,j4,fun hd b hb=>hI b (j5 hd b hb),j6,j7⟩
  | box e cs=>
   rw[hya]at hok
   obtain⟨j0,q,cur,j1,j2,j3,j4⟩:=hok
   simp only
   rw[k3,k4]
   refine⟨j0,q,cur,j1,j2,j3,ZG hI hun cs _ ?_ j4⟩
   have:=XaD.1 q3 y.key (hfm y hy)
   simp only[Ent.key,hya]at this
   exact this
 ·rw[List.Nodup,Xbg]at hnm
  exact hnm.imp_of_mem fun hx hy hne d1 d2 b hb hb'=>hpw _ hx _ hy hne b (.inr ⟨d1,hb⟩) (.inr ⟨d2,hb'⟩)
 ·intro y hy
  obtain⟨x,k1,k2,k3,k4,k5⟩:=g2 y hy
  cases hf:fre0 y.nm with
  | true=>exact Z.lo _ _ hf
  | false=>
   have e:gamN ρ y.nm=y.nm:=by unfold gamN;rw[hf];rfl
   rw[k3,<-e,<-k2]
   exact m.fix x k1
 ·have key:(one (Qa5 (gamN ρ) (rs i))).shows w en (Imm w0 Z O en w) (if h:us.length=1 then us[0]else .tuple us.toArray):=by
   generalize Qa5 (gamN ρ) (rs i)=vs at h3
   match vs,h3 with
   | [],h3=>
    have:us=[]:=h3
    subst this
    exact⟨[],rfl,rfl⟩
   | [x],h3=>
    obtain⟨u,us',rfl,k1,k2⟩:=h3
    have:us'=[]:=k2
    subst this
    exact k1
   | x::y::zs,h3=>
    have:us.length≠1:=by rw[QE h3];simp
    rw[dif_neg this]
    exact⟨us,rfl,h3⟩
  rw[<-Qto]at key
  exact AV.shows_un hI hun _ _ (QtB _ _ q4) key
theorem Ve{ι:Type}{P:Program}(tt:(T:TypeId)->Option (TI P T)){f:FuncId}{fn:Func}{c:Code}{args:List AV}{obs:List (Nat×AO)}{ok:ι->Prop}{rs:ι->List AV}{fin:ι->List (Nat×AO)}
  (hf : P.funcs[f]? = some fn) (hname : (fn.name == "runtime.NumGoroutine") = false) (hb : fn.body = some c) (hn : Nat.ble args.length fn.ntmps = true) (hs : ∀ i, ok i → Qu0 obs (fin i) = true)
  (h:∀(w0:World) (Z:ZV fre0) (O:Nat->Prop),AWp ⟨P,w0,fre0,Z,O,tt⟩ c (retN ⟨P,w0,fre0,Z,O,tt⟩ fn ok rs fin) ⟨fn.ntmps,Qej 0 args,obs⟩):NCalls P f args obs ok rs fin:=by
 refine⟨hs,?_⟩
 intro w Zp eh us hm hkey hsh
 refine⟨fun w'=>Go.MuLone.run_callFunc_enter hf hname hb _ w',?_⟩
 refine calls_of_wp hf hb ?_
 have hlen:=QE hsh
 have hle:us.length<=fn.ntmps:=by rw[hlen];exact XaJ hn
 have hrel:Rel ⟨P,w,fre0,ZH Zp eh,OH eh,tt⟩ ⟨fn.ntmps,Qej 0 args,obs⟩ { tmps:=us.toArray++Array.replicate (fn.ntmps-us.toArray.size) undef,defers:=[] } w:=by
  refine⟨eh,hm,by rw[hkey],rfl,by simp;omega,fun t=>?_⟩
  simp only[Xr,Xab,if_true,Xby]
  rw[Array.getD_eq_getD_getElem?]
  cases ht:args[t]? with
  | none=>simp only[List.getD,ht,Xb8];trivial
  | some x=>
   obtain⟨u,h1,h2⟩:=Wf hsh ht
   simp only[List.getD,ht,XaP]
   have hlt:t<us.length:=(List.getElem?_eq_some_iff.1 h1).1
   have:(us.toArray++Array.replicate (fn.ntmps-us.toArray.size) undef)[t]?=some u:=by
    rw[Array.getElem?_append_left (by simpa using hlt)]
    simpa using h1
   rw[this]
   exact h2
 refine wp_mono (h w (ZH Zp eh) (OH eh) _ w hrel) (fun e a' w' ⟨σ,hq,hr⟩=>?_)
 cases e with
 | normal=>obtain⟨i,ρ,h0,hq⟩:=hq;exact Qmp h0 hq hr
 | ret=>obtain⟨i,ρ,h0,hq⟩:=hq;exact Qmp h0 hq hr
 | _=>exact hq.elim

mutual
def AV.handN(ρ:List Nat):AV->Option AV
 | .any=>some .any
 | .d x=>some (.d x)
 | .nil=>some .nil
 | .row p=>match idxN ρ 500000 p with
  | some k=>some (.row k)
  | none=>none
 | .ptr p o=>match idxN ρ 1000000 p with
  | some k=>some (.ptr k o)
  | none=>none
 | .agg xs=>match QcU ρ xs with
  | some ys=>some (.agg ys)
  | none=>none
 | .clo g xs=>match QcU ρ xs with
  | some ys=>some (.clo g ys)
  | none=>none
 | .pd e i=>some (.pd e i)
 | _=>none
def QcU(ρ:List Nat):List AV->Option (List AV)
 | []=>some []
 | x::xs=>match x.handN ρ with
  | some y=>match QcU ρ xs with
   | some ys=>some (y::ys)
   | none=>none
  | none=>none
end
def AS.handNA(σ:AS)(ρ:List Nat):List Operand->Option (List AV)
 | []=>some []
 | x::xs=>match (σ.ev x).handN ρ with
  | some y=>match σ.handNA ρ xs with
   | some ys=>some (y::ys)
   | none=>none
  | none=>none
def AS.handedN(σ:AS)(ρ0:List Nat):Nat->List Nat->Option (List (Nat×AO))
 | _,[]=>some []
 | j,p::ρ=>match Qm σ.ob p with
  | some (.row e es d)=>match σ.handedN ρ0 (j+1) ρ with
   | some l=>some ((500000+j,.row e es d)::l)
   | none=>none
  | some (.box e cs)=>match QcU ρ0 cs with
   | some cs'=>match σ.handedN ρ0 (j+1) ρ with
    | some l=>some ((1000000+j,.box e cs')::l)
    | none=>none
   | none=>none
  | none=>none
def hbase(r:Bool):Nat:=bif r then 500000 else 1000000
structure Hnd (ρ0:List Nat) (j:Nat) (x y:Ent):Prop where
 nm:y.nm=hbase x.ao.isRow+j
 val:y.val=x.val
 fs:y.fs=x.fs
 row:∀e es d,x.ao=.row e es d->y.ao=x.ao
 box:∀e cs,x.ao=.box e cs->∃cs',QcU ρ0 cs=some cs'/\y.ao=.box e cs'
theorem Hnd.isRow{ρ0:List Nat}{j:Nat}{x y:Ent}(h:Hnd ρ0 j x y):y.ao.isRow=x.ao.isRow:=by
 cases hx:x.ao with
 | row e es d=>rw[h.row _ _ _ hx,hx]
 | box e cs=>obtain⟨_,_,h2⟩:=h.box _ _ hx;rw[h2];rfl
theorem Hnd.lens{ρ0:List Nat}{j:Nat}{x y:Ent}(h:Hnd ρ0 j x y):y.ao.lens=x.ao.lens:=by
 cases hx:x.ao with
 | row e es d=>rw[h.row _ _ _ hx,hx]
 | box e cs=>obtain⟨_,_,h2⟩:=h.box _ _ hx;rw[h2];rfl
theorem Hnd.hd{ρ0:List Nat}{j:Nat}{x y:Ent}(h:Hnd ρ0 j x y)(b:Nat):y.hd b↔x.hd b:=by
 unfold Ent.hd
 rw[h.val,h.fs]
 have:y.ao.deep=x.ao.deep:=by
  cases hx:x.ao with
  | row e es d=>rw[h.row _ _ _ hx,hx]
  | box e cs=>obtain⟨_,_,h2⟩:=h.box _ _ hx;rw[h2];rfl
 rw[this]
theorem QbI{X:Cx}{σ:AS}{a:Act}{w:World}{en:List Ent}(h:JO X σ a w en){ρ0:List Nat}:∀(ρ:List Nat) (n:Nat) (obs:List (Nat×AO)),σ.handedN ρ0 n ρ=some obs->
  ∃eh:List Ent,eh.map Ent.key=obs/\(∀y∈eh,∃x∈en,∃j,ρ[j]?=some x.nm/\Hnd ρ0 (n+j) x y)/\(∀j p,ρ[j]?=some p->∃x∈en,x.nm=p/\∃y∈eh,Hnd ρ0 (n+j) x y)
 | [],n,obs,hr=>by injection hr with hr;subst hr;exact⟨[],rfl,by simp,by simp⟩
 | p::ρ,n,obs,hr=>by
  have key:∀(ao:AO) (y:Nat×AO) (l:List (Nat×AO)),Qm σ.ob p=some ao->(∀x:Ent,x.nm=p->x.ao=ao->Hnd ρ0 n x ⟨y.1,y.2,x.val,x.fs⟩)->σ.handedN ρ0 (n+1) ρ=some l->obs=y::l->
    ∃eh:List Ent,eh.map Ent.key=obs/\(∀y∈eh,∃x∈en,∃j,(p::ρ)[j]?=some x.nm/\Hnd ρ0 (n+j) x y)/\(∀j q,(p::ρ)[j]?=some q->∃x∈en,x.nm=q/\∃y∈eh,Hnd ρ0 (n+j) x y):=by
   intro ao y l h1 h2 h3 h4
   subst h4
   obtain⟨eh,g1,g2,g3⟩:=QbI h ρ (n+1) l h3
   obtain⟨x,hx,hxn,hxa⟩:=h.ent h1
   have hh:=h2 x hxn hxa
   refine⟨⟨y.1,y.2,x.val,x.fs⟩::eh,by rw[Xaw,g1];rfl,fun z hz=>?_,fun j q hq=>?_⟩
   ·rcases Xaj.1 hz with rfl|hz
    ·exact⟨x,hx,0,by rw[hxn];rfl,hh⟩
    ·obtain⟨x',k1,j,k2,k3⟩:=g2 z hz
     exact⟨x',k1,j+1,by simpa using k2,by rw[show n+(j+1)=n+1+j by omega];exact k3⟩
   ·cases j with
    | zero=>
     simp only[List.getElem?_cons_zero,Xal]at hq
     exact⟨x,hx,hxn.trans hq,_,Xaa,hh⟩
    | succ j=>
     obtain⟨x',k1,k2,z,k3,k4⟩:=g3 j q (by simpa using hq)
     exact⟨x',k1,k2,z,Xae _ k3,by rw[show n+(j+1)=n+1+j by omega];exact k4⟩
  simp only[AS.handedN]at hr
  split at hr
  ·rename_i e es d hao
   split at hr
   ·rename_i l hl
    injection hr with hr
    refine key _ (500000+n,.row e es d) l hao (fun x hxn hxa=>⟨by rw[hxa];rfl,rfl,rfl,fun _ _ _ _=>hxa.symm,fun e' cs' h'=>(by rw[hxa]at h';cases h')⟩) hl hr.symm
   ·cases hr
  ·rename_i e cs hao
   split at hr
   ·rename_i cs' hcs
    split at hr
    ·rename_i l hl
     injection hr with hr
     refine key _ (1000000+n,.box e cs') l hao (fun x hxn hxa=>⟨by rw[hxa];rfl,rfl,rfl,fun e' es' d' h'=>(by rw[hxa]at h';cases h'),fun e' cs'' h'=>?_⟩) hl hr.symm
     rw[hxa]at h'
     injection h' with h1 h2
     subst h1;subst h2
     exact⟨cs',hcs,rfl⟩
    ·cases hr
   ·cases hr
  ·cases hr
section
variable {w:World} {en eh:List Ent} {I I':Nat->Prop} {ρ:List Nat}
mutual
theorem AV.shows_handN(hI:∀b,I b->I' b)(he:∀j p,ρ[j]?=some p->∀x∈en,x.nm=p->∃y∈eh,Hnd ρ j x y) :
  ∀(x y:AV) (u:Value),x.handN ρ=some y->x.shows w en I u->y.shows w eh I' u
 | .any,y,u,hy,_=>by injection hy with hy;subst hy;trivial
 | .d x,y,u,hy,h=>by
  injection hy with hy;subst hy
  obtain⟨F,h1,h2⟩:=h
  exact⟨F,h1,fun b hb=>hI b (h2 b hb)⟩
 | .nil,y,u,hy,h=>by injection hy with hy;subst hy;exact h
 | .row p,y,u,hy,h=>by
  simp only[AV.handN]at hy
  split at hy
  ·rename_i k hk
   injection hy with hy;subst hy
   obtain⟨x,hx,rfl,h1,h2⟩:=h
   obtain⟨k1,k2,k3⟩:=Zt hk
   rw[List.getD_eq_getElem?_getD,List.getElem?_eq_getElem k2,XaP]at k3
   obtain⟨y,hy,g⟩:=he (k-500000) x.nm (by rw[List.getElem?_eq_getElem k2,k3]) x hx rfl
   refine⟨y,hy,?_,by rw[g.isRow];exact h1,by rw[g.val];exact h2⟩
   rw[g.nm,h1]
   show 500000+_=_
   omega
  ·cases hy
 | .ptr p o,y,u,hy,h=>by
  simp only[AV.handN]at hy
  split at hy
  ·rename_i k hk
   injection hy with hy;subst hy
   obtain⟨x,hx,rfl,h1,g,h2,h3⟩:=h
   obtain⟨k1,k2,k3⟩:=Zt hk
   rw[List.getD_eq_getElem?_getD,List.getElem?_eq_getElem k2,XaP]at k3
   obtain⟨y,hy,g0⟩:=he (k-1000000) x.nm (by rw[List.getElem?_eq_getElem k2,k3]) x hx rfl
   refine⟨y,hy,?_,by rw[g0.isRow];exact h1,g,by rw[g0.val];exact h2,h3⟩
   rw[g0.nm,h1]
   show 1000000+_=_
   omega
  ·cases hy
 | .agg xs,y,u,hy,h=>by
  simp only[AV.handN]at hy
  split at hy
  ·rename_i ys hys
   injection hy with hy;subst hy
   obtain⟨us,h1,h2⟩:=h
   exact⟨us,h1,Vp hI he xs ys us hys h2⟩
  ·cases hy
 | .pr _ _ _,_,_,hy,_=>by cases hy
 | .pd e off,y,u,hy,h=>by
  injection hy with hy;subst hy
  obtain⟨b,o,us,F,h1,h2,h3,h4,h5⟩:=h
  exact⟨b,o,us,F,h1,h2,h3,hI b h4,fun c hc=>hI c (h5 c hc)⟩
 | .tup _,_,_,hy,_=>by cases hy
 | .sub _ _ _,_,_,hy,_=>by cases hy
 | .clo g xs,y,u,hy,h=>by
  simp only[AV.handN]at hy
  split at hy
  ·rename_i ys hys
   injection hy with hy;subst hy
   obtain⟨us,h1,h2⟩:=h
   exact⟨us,h1,Vp hI he xs ys us hys h2⟩
  ·cases hy
theorem Vp(hI:∀b,I b->I' b)(he:∀j p,ρ[j]?=some p->∀x∈en,x.nm=p->∃y∈eh,Hnd ρ j x y) :
  ∀(xs ys:List AV) (us:List Value),QcU ρ xs=some ys->Qn w en I xs us->Qn w eh I' ys us
 | [],ys,us,hy,h=>by injection hy with hy;subst hy;exact h
 | x::xs,ys,us,hy,h=>by
  simp only[QcU]at hy
  split at hy
  ·rename_i y hy1
   split at hy
   ·rename_i ys' hys
    injection hy with hy;subst hy
    obtain⟨u,us',rfl,h1,h2⟩:=h
    exact⟨u,us',rfl,AV.shows_handN hI he x y u hy1 h1,Vp hI he xs ys' us' hys h2⟩
   ·cases hy
  ·cases hy
end
end
theorem QbL{X:Cx}{σ:AS}{a:Act}{w:World}{en eh:List Ent}{I':Nat->Prop}{ρ:List Nat}(h:JO X σ a w en)(hI:∀b,IM X en w b->I' b)(he:∀j p,ρ[j]?=some p->∀x∈en,x.nm=p->∃y∈eh,Hnd ρ j x y) :
  ∀{xs:List Operand} {ys:List AV},σ.handNA ρ xs=some ys->Qn w eh I' ys (xs.map a.eval)
 | [],ys,hx=>by injection hx with hx;subst hx;rfl
 | x::xs,ys,hx=>by
  simp only[AS.handNA]at hx
  split at hx
  ·rename_i y hy
   split at hx
   ·rename_i zs hzs
    injection hx with hx;subst hx
    exact⟨_,_,rfl,AV.shows_handN hI he _ _ _ hy (AS.ev_shows h x),QbL h hI he hzs⟩
   ·cases hx
  ·cases hx
def X5(ρ:List Nat)(fin:List (Nat×AO))(n:Nat):Bool:=bif inN ρ n then fin.any (fun y=>bif fre0 y.1 then false else Nat.beq (ρ.getD (y.1-1000000) 0) n)else true
def finO(t:Nat)(ρ:List Nat):List (Nat×AO)->List (Nat×AO)
 | []=>[]
 | (n,ao)::l=>(Jv t ρ n,ao.mapN (Jv t ρ))::finO t ρ l
theorem Qjz(t:Nat)(ρ:List Nat):∀(l:List (Nat×AO)),finO t ρ l=l.map fun y=>(Jv t ρ y.1,y.2.mapN (Jv t ρ))
 | []=>rfl
 | (n,ao)::l=>by rw[finO,Qjz t ρ l];rfl
def Ql3(f:Nat->Bool)(t:Nat)(ρ:List Nat)(ob fin:List (Nat×AO)):Bool:=YI (fin.map fun y=>Jv t ρ y.1)&&fin.all fun y=>bif fre0 y.1 then Yz f (Jo t y.1) ob else true
section
variable {X:Cx} {σ:AS} {o:Oper} {K:AS->Prop} {t:Nat}
theorem Qld{ι:Type}{f:FuncId}{xs:List AV}{obs:List (Nat×AO)}{ok:ι->Prop}{rs:ι->List AV}{fin:ι->List (Nat×AO)}(ρ:List Nat)(hc:NCalls X.P f xs obs ok rs fin)
  (hx:∀a w en,JO X σ a w en->∃us:List Value,(execOp a.eval o).run X.P w=(callFunc f us.toArray).run X.P w/\∀(eh:List Ent) (I':Nat->Prop),(∀b,IM X en w b->I' b)->(∀j p,ρ[j]?=some p->∀x∈en,x.nm=p->∃y∈eh,Hnd ρ j x y)->Qn w eh I' xs us)
  (hd:o.dst=some t) (hob:σ.handedN ρ 0 ρ=some obs) (hn:YI ρ=true) (hno:Wy obs=true)
  (hf:∀i,ok i->Ql3 X.fre t ρ σ.ob (fin i)=true) (ht:Nat.blt t σ.nt=true)
  (hK:∀i,ok i->K ⟨σ.nt,(t,(one (rs i)).mapN (Jv t ρ))::cutS (X5 ρ (fin i)) σ.sl,finO t ρ (fin i)++Ya (inN ρ) (X5 ρ (fin i)) σ.ob⟩):OpOk X o σ K:=by
 intro a w hr next Q hnx
 obtain⟨en,h⟩:=hr
 have m0:=h.mem
 have hρ:=YR hn
 obtain⟨eh,g1,g2,g3⟩:=QbI h ρ 0 obs hob
 simp only[XaZ]at g2 g3
 obtain⟨hkeep,hcall⟩:=hc
 have hnm:(eh.map Ent.nm).Nodup:=by
  have e:eh.map Ent.nm=obs.map Prod.fst:=by rw[<-g1,XaS];rfl
  rw[e];exact Wc hno
 have hIeh:∀b,IM X en w b->Imm w (ZH (IM X en w) eh) (OH eh) eh w b:=fun b hb=>⟨.inl hb,hb.2.1,fun y hy e=>by
  obtain⟨x,hx,j,_,g⟩:=g2 y hy
  exact hb.2.2 x hx ((g.hd b).1 e)⟩
 have hhand:∀j p,ρ[j]?=some p->∀x∈en,x.nm=p->∃y∈eh,Hnd ρ j x y:=fun j p hj x hx e=>by
  obtain⟨x',k1,k2,y,k3,k4⟩:=g3 j p hj
  have:=m0.ent_unique hx k1 (e.trans k2.symm)
  subst this
  exact⟨y,k3,k4⟩
 have hidx:∀{j j':Nat} {p:Nat},ρ[j]?=some p->ρ[j']?=some p->j=j':=fun {j j' p} h1 h2=>by
  obtain⟨l1,e1⟩:=List.getElem?_eq_some_iff.1 h1
  obtain⟨l2,e2⟩:=List.getElem?_eq_some_iff.1 h2
  exact(XcJ (h₀:=l1) (h₁:=l2) hρ).1 (e1.trans e2.symm)
 have hpw:∀x∈eh,∀y∈eh,x.nm≠y.nm->∀b,x.hd b->¬y.hd b:=fun x hx y hy hne b hb hb'=>by
  obtain⟨x',k1,j,k2,k3⟩:=g2 x hx
  obtain⟨y',l1,j',l2,l3⟩:=g2 y hy
  refine m0.hd_ne k1 l1 (fun e=>hne ?_) ((k3.hd b).1 hb) ((l3.hd b).1 hb')
  have:=m0.ent_unique k1 l1 e
  subst this
  rw[k3.nm,l3.nm,hidx k2 l2]
 have hm:Mem X.P w (ZH (IM X en w) eh) (OH eh) eh w:=by
  refine⟨rfl,rfl,rfl,Xam _,fun _ _ _=>rfl,hnm,?_,fun y hy=>?_,?_,fun y hy _ x hx e=>?_⟩
  ·have hnm':=hnm
   rw[List.Nodup,Xbg]at hnm'
   exact hnm'.imp_of_mem fun hx hy hne=>hpw _ hx _ hy hne
  ·obtain⟨x,hx,j,k2,k3⟩:=g2 y hy
   have hok:=m0.ok x hx
   unfold EntOk at hok
   split at hok
   ·rename_i e1 es dp hx'
    obtain⟨z,us,l0,l1,l2,l3,l4,l5,l6,l7⟩:=hok
    unfold EntOk
    rw[k3.row _ _ _ hx',hx']
    simp only
    rw[k3.val,k3.fs]
    refine⟨z,us,l0,l1,l2,l3,l4,fun hd b hb=>hIeh b (l5 hd b hb),fun b hb=>.inl ⟨y,hy,.inl (by rw[k3.val];exact hb)⟩,fun hd=>⟨(l7 hd).1,fun b hb=>⟨.inl ⟨y,hy,.inr ⟨by rw[k3.row _ _ _ hx',hx'];exact hd,by rw[k3.fs];exact hb⟩⟩,((l7 hd).2.1 b hb).2⟩,(l7 hd).2.2⟩⟩
   ·rename_i e1 cs hx'
    obtain⟨l0,q,cur,l1,l2,l3,l4⟩:=hok
    obtain⟨cs',c1,c2⟩:=k3.box _ _ hx'
    unfold EntOk
    rw[c2]
    simp only
    rw[k3.val,k3.fs]
    exact⟨l0,q,cur,l1,.inl ⟨y,hy,.inl (by rw[k3.val,l1];rfl)⟩,l3,Vp hIeh hhand cs cs' _ c1 l4⟩
  ·have hnm':=hnm
   rw[List.Nodup,Xbg]at hnm'
   exact hnm'.imp_of_mem fun hx hy hne d1 d2 b hb hb'=>hpw _ hx _ hy hne b (.inr ⟨d1,hb⟩) (.inr ⟨d2,hb'⟩)
  ·rw[QcX hnm hx hy e]
 obtain⟨us,hrun,hsh⟩:=hx a w en h
 obtain⟨h2,h3⟩:=hcall w (IM X en w) eh us hm g1 (hsh eh _ hIeh hhand)
 unfold Oper.wp
 rw[hrun,h2,Oper.upon_enter]
 refine h3.mono fun e w' ⟨i,v,er,hi,he,m,hk,hr⟩=>?_
 subst he
 rw[hd]
 refine hnx _ _ _ (hK i hi) ?_
 have hkp:=hkeep i hi
 have hf':=hf i hi
 simp only[Ql3,Xaf]at hf'
 obtain⟨f1,f2⟩:=hf'
 have f1':=YR f1
 let γ:=Jv t ρ
 let g:Ent->Ent:=fun y=>⟨γ y.nm,y.ao.mapN γ,y.val,y.fs⟩
 have hgd:∀(y:Ent) (b:Nat),(g y).hd b↔y.hd b:=fun y b=>by
  show(blk y.val=some b\/((y.ao.mapN γ).deep=true/\b∈y.fs))↔_
  rw[AO.mapN_deep]
  rfl
 have hfm:∀y∈er,y.key∈fin i:=fun y hy=>hk.mem_iff.1 (Xad.2 ⟨y,hy,rfl⟩)
 have hfm':∀q∈fin i,∃y∈er,y.key=q:=fun q hq=>Xad.1 (hk.mem_iff.2 hq)
 -- what came back under a handed name
 have hold:∀y∈er,fre0 y.nm=false->∃x∈en,∃j,ρ[j]?=some x.nm/\y.nm=1000000+j/\γ y.nm=x.nm/\y.val=x.val/\y.ao.isRow=false/\x.ao.isRow=false:=fun y hy hfr=>by
  have h1:=XaD.1 hkp y.key (hfm y hy)
  simp only[Ent.key,hfr,cond_false]at h1
  split at h1
  ·rename_i ao hao
   simp only[Xaf,Xa6]at h1
   have h4:=Jl hao
   rw[<-g1]at h4
   obtain⟨q,hq,e⟩:=Xad.1 h4
   have e1:q.nm=y.nm:=congrArg Prod.fst e
   have e2:q.ao=ao:=congrArg Prod.snd e
   obtain⟨x,hx,j,k2,k3⟩:=g2 q hq
   have hxr:x.ao.isRow=false:=by rw[<-k3.isRow,e2];exact h1.1
   have hnm2:y.nm=1000000+j:=by rw[<-e1,k3.nm,hxr];rfl
   have hv:y.val=q.val:=m.fix y hy hfr q hq e1
   refine⟨x,hx,j,k2,hnm2,?_,hv.trans k3.val,h1.2,hxr⟩
   show Jv t ρ y.nm=x.nm
   unfold Jv
   rw[hfr,hnm2,cond_false,show 1000000+j-1000000=j by omega,List.getD_eq_getElem?_getD,k2]
   rfl
  ·cases h1
 have hnew:∀y∈er,fre0 y.nm=true->γ y.nm=Jo t y.nm/\Yz X.fre (Jo t y.nm) σ.ob=true:=fun y hy hfr=>by
  have h1:=XaD.1 f2 y.key (hfm y hy)
  simp only[Ent.key,hfr,cond_true]at h1
  refine⟨?_,h1⟩
  show Jv t ρ y.nm=_
  unfold Jv
  rw[hfr];rfl
 have hOH:∀b,OH eh b->∃x∈en,inN ρ x.nm=true/\x.hd b:=fun b ⟨y,hy,hb⟩=>by
  obtain⟨x,hx,j,k2,k3⟩:=g2 y hy
  exact⟨x,hx,Qi3.2 (List.mem_of_getElem? k2),(k3.hd b).1 hb⟩
 have hlt:∀x∈en,∀b,x.hd b->b<w.heap.size:=fun x hx b hb=>((m0.ok x hx).lth hb).1
 have hFO:∀b,OH eh b->Frs X.w0 X.O b:=fun b hO=>by
  obtain⟨x,hx,_,hb⟩:=hOH b hO
  exact((m0.ok x hx).lth hb).2
 have hFr:∀b,Frs w (OH eh) b->Frs X.w0 X.O b:=fun b hb=>by
  rcases hb with hb|hb
  ·exact hFO b hb
  ·exact .inr (Xao m0.size hb)
 have hys:∀{y:Ent},y∈er.map g->∃z∈er,y=g z:=fun hy=>by
  obtain⟨z,hz,e⟩:=Xad.1 hy
  exact⟨z,hz,e.symm⟩
 have hs:X7 X.P X.w0 X.Z X.O en w w' (inN ρ) (er.map g) (X5 ρ (fin i)):=by
  refine⟨m0,fun n hn=>?_,fun x hx hdl hpx=>?_,m.os,m.tape,m.output,m.size,fun b hb hno=>m.old b hb fun hO=>?_,fun y hy b hb=>?_,fun y hy x hx hdl e=>?_,?_,?_,fun y hy=>?_⟩
  ·unfold X5 at hn
   cases hi':inN ρ n with
   | true=>rfl
   | false=>rw[hi']at hn;cases hn
  ·unfold X5 at hpx
   rw[hdl,cond_true,XaX]at hpx
   obtain⟨q,hq,hq2⟩:=hpx
   cases hfr:fre0 q.1 with
   | true=>rw[hfr]at hq2;cases hq2
   | false=>
    rw[hfr,cond_false]at hq2
    obtain⟨y,hy,hyk⟩:=hfm' q hq
    have hyn:y.nm=q.1:=congrArg Prod.fst hyk
    obtain⟨x',k1,j,k2,k3,k4,k5,k6,k7⟩:=hold y hy (by rw[hyn];exact hfr)
    have hxx:x'.nm=x.nm:=by
     rw[<-k4,<-(Qg _ _).1 hq2]
     show Jv t ρ y.nm=_
     unfold Jv
     rw[hyn,hfr];rfl
    have:=m0.ent_unique k1 hx hxx
    subst this
    refine⟨g y,Xad.2 ⟨y,hy,rfl⟩,k4,k5,?_,?_⟩
    ·show(y.ao.mapN γ).isRow=_
     rw[AO.mapN_isRow,k6,k7]
    ·show(y.ao.mapN γ).lens=_
     rw[AO.mapN_lens]
     have e1:∀ao:AO,ao.isRow=false->ao.lens=[]:=fun ao h=>by
      cases ao with
      | row=>cases h
      | box=>rfl
     rw[e1 _ k6,e1 _ k7]
  ·obtain⟨x,hx,hin,hb'⟩:=hOH b hO
   exact hno x hx hin hb'
  ·obtain⟨z,hz,rfl⟩:=hys hy
   rcases((m.ok z hz).lth ((hgd z b).1 hb)).2 with h1|h1
   ·exact .inr (hOH b h1)
   ·exact .inl h1
  ·obtain⟨z,hz,rfl⟩:=hys hy
   have e':x.nm=γ z.nm:=e
   cases hfr:fre0 z.nm with
   | true=>
    obtain⟨k1,k2⟩:=hnew z hz hfr
    have:hasN (Jo t z.nm) σ.ob=true:=Q9.2 ⟨x.key,h.ob.mem_iff.1 (Xad.2 ⟨x,hx,rfl⟩),by rw[<-k1,<-e'];rfl⟩
    rw[(Q0 k2).1]at this;cases this
   | false=>
    obtain⟨x',k1,j,k2,k3,k4,_⟩:=hold z hz hfr
    rw[e',k4,Qi3.2 (List.mem_of_getElem? k2)]at hdl
    cases hdl
  ·have e1:(er.map g).map Ent.nm=(er.map Ent.key).map fun y=>γ y.1:=by rw[XaS,XaS];rfl
   rw[e1]
   exact((hk.map _).nodup_iff).2 f1'
  ·rw[Xbg]
   exact m.blks.imp fun {x y} hxy b hb hb'=>hxy b ((hgd x b).1 hb) ((hgd y b).1 hb')
  ·obtain⟨z,hz,rfl⟩:=hys hy
   show X.Z.fx (γ z.nm) z.val
   cases hfr:fre0 z.nm with
   | true=>
    obtain⟨k1,k2⟩:=hnew z hz hfr
    rw[k1]
    exact X.Z.lo _ _ (Q0 k2).2
   | false=>
    obtain⟨x',k1,j,k2,k3,k4,k5,_⟩:=hold z hz hfr
    rw[k4,k5]
    exact m0.fix x' k1
 have hIr:∀b,Imm w (ZH (IM X en w) eh) (OH eh) er w' b->IM X (er.map g++WJ (inN ρ) (X5 ρ (fin i)) en) w' b:=fun b hb=>by
  refine⟨?_,hb.2.1,fun y hy=>?_⟩
  ·rcases hb.1 with h1|h1|h1
   ·exact(show IM X en w b from h1).1
   ·exact .inr (hFO b h1)
   ·exact .inr (.inr (Xao m0.size h1))
  ·rcases Xag.1 hy with hy|hy
   ·obtain⟨z,hz,rfl⟩:=hys hy
    exact fun e=>hb.2.2 z hz ((hgd z b).1 e)
   ·obtain⟨z,hz,hzd,rfl⟩:=VX hy
    intro e
    have e:=(Ent.hd_cut _ z b).1 e
    rcases hb.1 with h1|h1|h1
    ·exact(show IM X en w b from h1).2.2 z hz e
    ·obtain⟨x,hx,hin,hb'⟩:=hOH b h1
     exact m0.hd_ne hx hz (fun e0=>by rw[<-e0,hin]at hzd;cases hzd) hb' e
    ·have:=hlt z hz b e
     omega
 have hmap:∀x∈er,∃y∈er.map g++WJ (inN ρ) (X5 ρ (fin i)) en,y.nm=γ x.nm/\y.val=x.val/\y.ao.isRow=x.ao.isRow/\y.ao.lens=x.ao.lens:=fun x hx=>
  ⟨g x,Xat _ (Xad.2 ⟨x,hx,rfl⟩),rfl,rfl,AO.mapN_isRow _ _,AO.mapN_lens _ _⟩
 have h9:=h.swap2 hs (fun y hy=>by
  obtain⟨z,hz,rfl⟩:=hys hy
  have hok:=m.ok z hz
  unfold EntOk at hok
  split at hok
  ·rename_i e es dp hao
   obtain⟨s,us,k0,k1,k2,k3,k4,k5,k6,k7⟩:=hok
   unfold EntOk
   simp only[g,hao,AO.mapN]
   exact⟨s,us,k0,k1,k2,k3,k4,fun hd b hb=>hIr b (k5 hd b hb),fun q hq=>hFr q (k6 q hq),fun hd=>⟨(k7 hd).1,fun b hb=>⟨hFr b ((k7 hd).2.1 b hb).1,((k7 hd).2.1 b hb).2⟩,(k7 hd).2.2⟩⟩
  ·rename_i e cs hao
   obtain⟨k0,q,cur,k1,k2,k3,k4⟩:=hok
   unfold EntOk
   simp only[g,hao,AO.mapN]
   exact⟨k0,q,cur,k1,hFr q k2,k3,Wl hIr hmap cs _ k4⟩)
 have e2:(er.map g).map Ent.key=(er.map Ent.key).map fun y=>(γ y.1,y.2.mapN γ):=by simp only[XaS];rfl
 have h10:JO X ⟨σ.nt,cutS (X5 ρ (fin i)) σ.sl,finO t ρ (fin i)++Ya (inN ρ) (X5 ρ (fin i)) σ.ob⟩ a w' _:=⟨h9.mem,h9.ob.trans (by
  rw[e2,Qjz]
  exact List.Perm.append_right _ (hk.map _)),h9.defers,h9.size,h9.slots⟩
 exact⟨_,h10.put (AV.shows_mapN hIr hmap _ v hr) ht⟩
theorem Qj4{ι:Type}{f:FuncId}{as:Array Operand}{ats:Array TypeId}{xs:List AV}{obs:List (Nat×AO)}{ok:ι->Prop}{rs:ι->List AV}{fin:ι->List (Nat×AO)}(ρ:List Nat)(hc:NCalls X.P f xs obs ok rs fin)
  (ho:o.op=.call { callee:=.value (.func f),args:=as,argTypes:=ats }) (hd:o.dst=some t) (hx:σ.handNA ρ as.toList=some xs) (hob:σ.handedN ρ 0 ρ=some obs) (hn:YI ρ=true) (hno:Wy obs=true)
  (hf:∀i,ok i->Ql3 X.fre t ρ σ.ob (fin i)=true) (ht:Nat.blt t σ.nt=true)
  (hK:∀i,ok i->K ⟨σ.nt,(t,(one (rs i)).mapN (Jv t ρ))::cutS (X5 ρ (fin i)) σ.sl,finO t ρ (fin i)++Ya (inN ρ) (X5 ρ (fin i)) σ.ob⟩):OpOk X o σ K:=
 Qld ρ hc (fun a w _ h=>⟨_,Y5 ho a w,fun _ _ hI he=>QbL h hI he hx⟩) hd hob hn hno hf ht hK
end
end
section

mutual
def AV.dat(ob:List (Nat×AO)):AV->AV
 | .row o=>match Qm ob o with
  | some (.row _ es _)=>.d (.sl es)
  | _=>.any
 | .nil=>.d (.sl [])
 | .agg xs=>.agg (datL ob xs)
 | .tup xs=>.tup (datL ob xs)
 | .d x=>.d x
 | _=>.any
def datL(ob:List (Nat×AO)):List AV->List AV
 | []=>[]
 | x::xs=>x.dat ob::datL ob xs
end
theorem QmU(ob:List (Nat×AO))(rs:List AV):(one rs).dat ob=one (datL ob rs):=by
 match rs with
 | []=>rfl
 | [x]=>rfl
 | x::y::zs=>rfl
section
variable {P:Program} {w0 w:World} {f:Nat->Bool} {Z:ZV f} {O:Nat->Prop} {en:List Ent} {I:Nat->Prop} {ob:List (Nat×AO)}
mutual
theorem AV.shows_dat(m:Mem P w0 Z O en w)(hk:(en.map Ent.key).Perm ob)(hI:∀b,Imm w0 Z O [] w b->I b):∀(x:AV) (u:Value),x.shows w en (Imm w0 Z O en w) u->(x.dat ob).shows w [] I u
 | .row o,u,h=>by
  simp only[AV.dat]
  split
  ·rename_i e es dp ho
   obtain⟨x,hx,hxn,_,rfl⟩:=h
   obtain⟨y,hy,e1⟩:=Xad.1 (hk.mem_iff.2 (Jl ho))
   have:=m.ent_unique hy hx ((congrArg Prod.fst e1).trans hxn.symm)
   subst this
   have hya:y.ao=.row e es dp:=congrArg Prod.snd e1
   have hok:=m.ok y hy
   obtain⟨F,h1,h2⟩:=hok.data hya
   refine⟨F,h1,fun b hb=>hI b ?_⟩
   rcases h2 b hb with h3|h3
   ·unfold EntOk at hok
    rw[hya]at hok
    obtain⟨z,us,k0,k1,k2,k3,k4,k5,k6,k7⟩:=hok
    cases dp with
    | true=>exact⟨.inr ((k7 rfl).2.1 b h3).1,((k7 rfl).2.1 b h3).2.1,by simp⟩
    | false=>exact⟨(k5 rfl b h3).1,(k5 rfl b h3).2.1,by simp⟩
   ·exact⟨.inr (hok.lt h3).2,(hok.lt h3).1,by simp⟩
  ·trivial
 | .nil,u,h=>⟨[],⟨none,0,0,[],[],h,Xam _,Xab _,fun _=>rfl,by simp,⟨rfl,rfl⟩,.inl ⟨rfl,rfl⟩⟩,by simp⟩
 | .d x,u,h=>by
  obtain⟨F,h1,h2⟩:=h
  exact⟨F,h1,fun b hb=>hI b ⟨(h2 b hb).1,(h2 b hb).2.1,by simp⟩⟩
 | .agg xs,u,h=>by
  obtain⟨us,h1,h2⟩:=h
  exact⟨us,h1,Qbw m hk hI xs us h2⟩
 | .tup xs,u,h=>by
  obtain⟨us,h1,h2⟩:=h
  exact⟨us,h1,Qbw m hk hI xs us h2⟩
 | .any,_,_=>trivial
 | .ptr _ _,_,_=>trivial
 | .pr _ _ _,_,_=>trivial
 | .pd _ _,_,_=>trivial
 | .clo _ _,_,_=>trivial
 | .sub _ _ _,_,_=>trivial
theorem Qbw(m:Mem P w0 Z O en w)(hk:(en.map Ent.key).Perm ob)(hI:∀b,Imm w0 Z O [] w b->I b):∀(xs:List AV) (us:List Value),Qn w en (Imm w0 Z O en w) xs us->Qn w [] I (datL ob xs) us
 | [],_,h=>h
 | x::xs,us,h=>by
  obtain⟨u,us',h1,h2,h3⟩:=h
  exact⟨u,us',h1,AV.shows_dat m hk hI x u h2,Qbw m hk hI xs us' h3⟩
end
end
theorem dc_m{ι:Type}{P:Program}{f:FuncId}{args:List AV}{ok:ι->Prop}{rs:ι->List AV}{obs' rob:ι->List (Nat×AO)}(h:MCalls P f args [] ok rs obs' rob):MCalls P f args [] ok (fun i=>datL (rob i++obs' i) (rs i)) (fun _=>[]) (fun _=>[]):=by
 refine⟨⟨trivial,fun _ _=>⟨trivial,trivial⟩⟩,fun w Zp eh us hm hk hs=>?_⟩
 obtain⟨h1,h2⟩:=h.2 w Zp eh us hm hk hs
 refine⟨h1,h2.mono fun e w' ⟨i,v,en,⟨hi,_⟩,he,m,hp,hr⟩=>⟨i,v,[],⟨hi,rfl⟩,he,⟨m.os,m.tape,m.output,m.size,m.old,by simp,by simp,by simp,by simp,by simp⟩,Xbv _,?_⟩⟩
 rw[<-QmU]
 exact AV.shows_dat m hp (fun _ hb=>hb) _ _ hr
theorem dc_a{P:Program}{f:FuncId}{args rs:List AV}{rob:List (Nat×AO)}(h:ACalls P f args rs rob):MCalls P f args [] (fun _:Unit=>True) (fun _=>datL rob rs) (fun _=>[]) (fun _=>[]):=by
 refine⟨⟨trivial,fun _ _=>⟨trivial,trivial⟩⟩,fun w Zp eh us hm hk hs=>?_⟩
 have hnil:eh=[]:=by simpa using hk
 subst hnil
 obtain⟨h1,h2⟩:=h w us (QdX (Xam _) (fun _ _=>rfl) (fun b hb=>hb.2.1) (fun x hx=>by cases hx) hs)
 refine⟨h1,h2.mono fun e w' ⟨v,en,he,m,hp,hr⟩=>⟨(),v,[],⟨trivial,rfl⟩,he,⟨m.os,m.tape,m.output,m.size,fun b hb _=>m.old b hb id,by simp,by simp,by simp,by simp,by simp⟩,Xbv _,?_⟩⟩
 rw[<-QmU]
 exact AV.shows_dat m hp (fun b hb=>⟨by rcases hb.1 with h3|h3|h3;exact h3.elim;exact h3.elim;exact .inr (.inr h3),hb.2.1,by simp⟩) _ _ hr
def slAt:List D->Option (List D×List (List D)×List D)
 | []=>none
 | .sl es::l=>some ([],es,l)
 | d::l=>match slAt l with
  | some (a,es,b)=>some (d::a,es,b)
  | none=>none
theorem Qnp:∀{el pre post:List D} {es:List (List D)},slAt el=some (pre,es,post)->el=pre++.sl es::post
 | [],_,_,_,h=>by cases h
 | x::xs,pre,post,q,h=>by
  have key:∀y:D,(match slAt xs with
   | some (a,q,b)=>some (y::a,q,b)
   | none=>none)=some (pre,q,post)->y::xs=pre++.sl q::post:=fun y hy=>by
   split at hy
   ·rename_i a q' b hr
    injection hy with hy
    injection hy with e1 hy
    injection hy with e2 e3
    subst e1;subst e2;subst e3
    rw[Qnp hr];rfl
   ·cases hy
  cases x with
  | sl q'=>
   simp only[slAt,Xal,Xcd]at h
   obtain⟨rfl,rfl,rfl⟩:=h
   rfl
  | _=>exact key _ h
section
variable {X:Cx} {σ:AS} {o:Oper} {K:AS->Prop} {t:Nat}
theorem QqA{T e:TypeId}{x:Operand}{p i z1:Nat}{es es1:List (List D)}{el dpre dpost:List D}[ti:TI X.P T](ho:o.op=.load T x)(hd:o.dst=some t)(hx:σ.ev x=.pr p i 0)(hp:Qm σ.ob p=some (.row e es true))(hel:es[i]?=some el)(hsp:slAt el=some (dpre,es1,dpost))
  (hne:es1≠[]) (hz1:∀q∈es1,q.length=z1) (hf1:YT es1=true) (hfp:dpre.all D.flat=true) (hfo:dpost.all D.flat=true) (hl:Nat.beq (dpre.length+(1+dpost.length)) ti.size=true) (ha:JQ ti.desc=true) (hf:Yz X.fre t σ.ob=true) (ht:Nat.blt t σ.nt=true)
  (hK:∀e1,(X.P.info? e1).map (·.size)=some z1->K ⟨σ.nt,(t,.agg (dpre.map AV.d++.row t::dpost.map AV.d))::σ.sl,(p,.row e (es.set i (dpre++.un::dpost)) true)::(t,.row e1 es1 true)::Ya (isPQ p p) (fun _=>true) σ.ob⟩):OpOk X o σ K:=by
 intro a w hr next Q hn'
 obtain⟨en,h1⟩:=hr
 have hele:=Qnp hsp
 have hnst:el[dpre.length]?=some (.sl es1):=by rw[hele];simp
 obtain⟨zp,hz,hzn,hza⟩:=h1.ent hp
 have hok:=h1.mem.ok zp hz
 unfold EntOk at hok
 rw[hza]at hok
 obtain⟨s,us,k0,k1,k2,k3,k4,k5,k6,k7⟩:=hok
 obtain⟨k7a,k7b,k7c⟩:=k7 rfl
 obtain⟨z',hz',e1,e2,g',s',e3,e4,e5,e6⟩:=QP h1 hx
 have:=h1.mem.ent_unique hz' hz (e1.trans hzn.symm)
 subst this
 rw[hza]at e4 e5
 have hels:el.length=s:=k3 el (List.mem_of_getElem? hel)
 have hsl:s'=s:=by
  have:=e4 el.length (Xad.2 ⟨el,List.mem_of_getElem? hel,rfl⟩)
  rw[<-this,hels]
 subst hsl
 have hoff:dpre.length<s':=by rw[<-hels];exact(List.getElem?_eq_some_iff.1 hnst).1
 have hilt:i<es.length:=(List.getElem?_eq_some_iff.1 hel).1
 have hts:ti.size=s':=by rw[<-(Qg _ _).1 hl,<-hels,hele];simp;omega
 obtain⟨u,G,F1,F2,hus,hrep,hF,hback⟩:=Qeb k4 k3 hel hnst
 obtain⟨vs,G2,hvl,hvG,hvu⟩:=QfR k4 k3 hel
 have hvlen:vs.length=s':=by rw[QA hvl,hels]
 obtain⟨A,c,q1,q2,q3,q4,q5⟩:=Jx k2
 obtain⟨g0,q6⟩:=q5 (by omega)
 have hg0:g0=g':=by
  rw[q1,q6]at e3
  simp only[blk,Xal]at e3
  exact e3
 subst hg0
 have hcell:∀j v,vs[j]?=some v->w.cell? ⟨g0,i*s'+0+j,none⟩=some v:=fun j v hj=>by
  have h2:=hvu j v hj
  have hk2:=k2
  rw[q1,q6]at hk2
  rw[hk2.cellAt _ (by have:=(List.getElem?_eq_some_iff.1 h2).1;rw[k2.1]at this;omega)]
  exact h2
 have hrun:(execOp a.eval o).run X.P w=.ok (.value (.agg vs.toArray)) w:=by
  have h4:=run_loadAt_mid (P:=X.P) w g0 (i*s'+0) T vs ti.desc hcell ti.und (by cases hde:ti.desc <;> simp_all[JQ,TypeDesc.isRow]) (by rw[ti.sized,hvlen,hts])
  simp only[execOp,ho,e6,Sem.run_bind,h4,Result.andThen]
  rfl
 obtain⟨b0,hb0,hG⟩:=Qdv hrep hne hf1
 subst hG
 have hfi:es.flatten[i*s'+dpre.length]?=some (D.sl es1):=by
  rw[Qdj k1 k3]
  have e1:(i*s'+dpre.length) / s'=i:=by
   rw[Xcj,Nat.mul_add_div k1,Xcn hoff,XbI]
  have e2:(i*s'+dpre.length) % s'=dpre.length:=by
   rw[Xcj,Nat.mul_add_mod,Xco hoff]
  rw[e1,e2,hel]
  exact hnst
 obtain⟨en1,zn,vr,n1,n2,n3,n4⟩:=k7c _ _ _ hfi hus hne
 have hzz:zn=z1:=by
  cases es1 with
  | nil=>exact absurd rfl hne
  | cons d0 l=>rw[<-n3 d0 Xaa,hz1 d0 Xaa]
 subst hzz
 have hvs:repE w es1 vr []:=by
  obtain⟨A1,c1,z2,us1,F',r1,r2,r3,r4,r5,r6,r7⟩:=hrep
  rcases r7 with ⟨r7,_⟩|⟨_,b,o,rA,r8,r9,r10⟩
  ·exact absurd r7 hne
  ·have hF':F'=[]:=by injection r9 with _ r9;exact r9.symm
   subst hF'
   have hz2:z2=zn:=by
    cases es1 with
    | nil=>exact absurd rfl hne
    | cons d0 l=>rw[<-n3 d0 Xaa,r5 d0 Xaa]
   subst hz2
   obtain⟨A3,c3,m1,m2,m3,m4,m5⟩:=Jx n4
   obtain⟨g3,m6⟩:=m5 (Xbp.2 hne)
   rw[r1,rA]at m1
   injection m1 with m1 _ m7
   rw[m6]at m1
   injection m1 with m1
   injection m1 with m1 m8
   have:us1=vr:=by
    refine List.ext_getElem? fun j=>?_
    by_cases hj:j<es1.length*z2
    ·have h3:j<us1.length:=by rw[Q6 r6 r5];exact hj
     have h4:=r10 j _ (List.getElem?_eq_getElem h3)
     rw[r1,rA,m8]at n4
     have n5:=n4
     rw[m1]at n5
     rw[List.getElem?_eq_getElem h3,<-h4,m1,m8,XaZ]
     exact(World.ownsRow.cellAt n5 j hj)
    ·rw[List.getElem?_eq_none (by rw[Q6 r6 r5];omega),List.getElem?_eq_none (by rw[n4.1];omega)]
   rw[<-this];exact r6
 have hbfs:b0∈z'.fs:=by rw[hF];simp
 have hnd:(F1++[b0]++F2).Nodup:=by rw[<-hF];exact k7a
 have hnd2:(F1++F2).Nodup:=Xbs (by rw[Xaq];exact List.Sublist.append_left (List.sublist_append_right _ _) _) hnd
 have hnb:b0∉F1++F2:=fun hb=>by
  rw[Xaq,Xbe]at hnd
  rcases Xag.1 hb with hb|hb
  ·exact hnd.2.2 b0 hb b0 (by simp) rfl
  ·have:=hnd.2.1
   simp only[XbE,XaY]at this
   exact this.1 hb
 have hfsub:∀b∈F1++F2,b∈z'.fs:=fun b hb=>by
  rw[hF]
  rcases List.mem_append.1 hb with hb|hb <;> simp[hb]
 have hu1:u.oneCell'=true:=D.rep_one hrep
 have hun:=hback w .un [] (Xam _) (fun _ _=>rfl) ⟨hu1,rfl⟩
 have hset:el.set dpre.length .un=dpre++.un::dpost:=by rw[hele];simp
 rw[hset]at hun
 rw[Xa2]at hun
 let es':=es.set i (dpre++.un::dpost)
 let x':Ent:=⟨p,.row e es' true,z'.val,F1++F2⟩
 let q:Ent:=⟨t,.row en1 es1 true,u,[]⟩
 have hfr:∀x∈en,x.nm≠t:=fun x hx e=>by
  have:hasN t σ.ob=true:=Q9.2 ⟨x.key,h1.ob.mem_iff.1 (Xad.2 ⟨x,hx,rfl⟩),e⟩
  rw[(Q0 hf).1]at this;cases this
 have hpt:p≠t:=fun e=>hfr z' hz' (e1.trans e)
 have hel2:(dpre++D.un::dpost).length=s':=by rw[<-hset,Xak];exact hels
 have hlens:(AO.row e es' true).lens=(AO.row e es true).lens:=by
  simp only[AO.lens,es',XbJ]
  refine List.ext_getElem? fun k=>?_
  rw[List.getElem?_set]
  split
  ·rename_i hk
   subst hk
   rw[List.getElem?_map,hel,hel2,<-hels]
   simp[hilt]
  ·rfl
 have hqd:∀b,q.hd b->b=b0:=fun b hb=>by
  rcases hb with hb|⟨_,hb⟩
  ·have:blk u=some b:=hb
   rw[hb0]at this
   injection this with this
   exact this.symm
  ·cases hb
 have hys:∀{y:Ent},y∈[x',q]->y=x'\/y=q:=fun hy=>by simpa using hy
 have hs:X7 X.P X.w0 X.Z X.O en w w (isPQ p p) [x',q] (fun _=>true):=by
  refine⟨h1.mem,fun n hn=>Bool.noConfusion hn,fun x hx hd hpx=>⟨x',Xaa,?_⟩,rfl,rfl,rfl,Xam _,fun b _ _=>rfl,fun y hy b hb=>?_,fun y hy x hx hd e=>?_,?_,?_,fun y hy=>?_⟩
  ·have:=h1.mem.ent_unique hx hz' (((Q1.1 hd).elim id id).trans e1.symm)
   subst this
   exact⟨e1.symm,rfl,by rw[hza];rfl,by rw[hza];exact hlens⟩
  ·refine .inr ⟨z',hz',Q1.2 (.inl e1),?_⟩
   rcases hys hy with rfl|rfl
   ·rcases hb with hb|⟨_,hb⟩
    ·exact .inl hb
    ·exact .inr ⟨by rw[hza];rfl,hfsub b hb⟩
   ·rw[hqd b hb]
    exact .inr ⟨by rw[hza];rfl,hbfs⟩
  ·rcases hys hy with rfl|rfl
   ·rw[Q1.2 (.inl e)]at hd;cases hd
   ·exact hfr x hx e
  ·simp only[Xaw,Xbb,XaY,XaM,Xb9,not_false_iff,List.nodup_nil,and_true]
   exact hpt
  ·rw[Xau]
   refine⟨fun y hy b hb hb'=>?_,List.pairwise_singleton _ _⟩
   obtain rfl:y=q:=by simpa using hy
   have:=hqd b hb'
   subst this
   rcases hb with hb|⟨_,hb⟩
   ·exact(k7b b hbfs).2.2 hb
   ·exact hnb hb
  ·rcases hys hy with rfl|rfl
   ·show X.Z.fx p z'.val
    rw[<-e1]
    exact h1.mem.fix z' hz'
   ·exact X.Z.lo _ _ (Q0 hf).2
 have h9:=h1.swap2 hs (fun y hy=>by
  rcases hys hy with rfl|rfl
  ·unfold EntOk
   refine⟨s',us,k0,k1,by rw[Xak];exact k2,fun q hq=>?_,hun,fun h=>Bool.noConfusion h,k6,fun _=>⟨hnd2,fun b hb=>k7b b (hfsub b hb),fun j q u' hj hu' hqne=>?_⟩⟩
   ·rcases Xbl hq with hq|rfl
    ·exact k3 q hq
    ·exact hel2
   ·have hj:(es.set i (dpre++D.un::dpost)).flatten[j]?=some (D.sl q):=hj
    rw[<-hset,Wb k3 hel hoff,List.getElem?_set]at hj
    split at hj
    ·split at hj
     ·simp at hj
     ·cases hj
    ·exact k7c j q u' hj hu' hqne
  ·unfold EntOk
   exact⟨zn,vr,n1,n2,n4,n3,hvs,fun h=>Bool.noConfusion h,fun b hb=>by
    have:=hqd b (.inl hb)
    subst this
    exact(k7b b hbfs).1,fun _=>⟨by simp[q],by simp[q],NstL.nilE hvs⟩⟩)
 rw[Qaw]at h9
 have hv:Qn w ([x',q]++WJ (isPQ p p) (fun _=>true) en) (IM X ([x',q]++WJ (isPQ p p) (fun _=>true) en) w) (dpre.map AV.d++.row t::dpost.map AV.d) vs:=by
  have hvl':=hvl
  rw[hele]at hvl'
  obtain⟨v1,v2,H1,H2,rfl,_,h2,h3⟩:=Qbt hvl'
  obtain⟨v3,v4,H3,H4,rfl,_,h4,h5⟩:=h3
  have:=Jw h2 hfp;subst this
  have:=Jw h5 hfo;subst this
  have hv3:v3=u:=by
   have h6:=hvu dpre.length v3 (by rw[List.getElem?_append_right (by rw[QA h2];exact Xam _),QA h2,XbX];rfl)
   rw[hus]at h6
   injection h6 with h6
   exact h6.symm
  subst hv3
  refine J2 (Wk h2 (by simp)) ⟨_,_,rfl,⟨q,by simp,rfl,rfl,rfl⟩,Wk h5 (by simp)⟩
 have h10:=h9.put (t:=t) (v:=.agg (dpre.map AV.d++.row t::dpost.map AV.d)) (u:=.agg vs.toArray) ⟨vs,rfl,hv⟩ ht
 unfold Oper.wp
 rw[hrun,Oper.upon_value,hd]
 exact hn' _ _ _ (hK en1 n1) ⟨_,h10⟩
theorem Qhs{σ1 σ2:AS}(h:OpOk X o σ (fun σ'=>σ'=σ1))(hr:∀a w,Rel X σ1 a w->Rel X σ2 a w)(hK:K σ2):OpOk X o σ K:=fun a w hrel next Q hn=>
 h a w hrel next Q fun _ a' w' e hr'=>hn σ2 a' w' hK (hr a' w' (e▸hr'))
def tgtE(o:Oper)(rs:List (Nat×AV)):Option (List Nat×List Nat):=
 match o.op with
 | .buildSlice ..=>some (Qet rs,Qet rs)
 | .call c=>match c.callee with
  | .builtin b=>match b with
   | .append=>some (Qet rs,Qet rs)
   | _=>none
  | _=>none
 | _=>none
theorem Qs8{T e eq:TypeId}{len q zq:Nat}{parts:Array (Nat×Operand)}{cs pre post:List AV}{dpre dpost:List D}{esq es:List (List D)}{dq:Bool}[te:TI X.P e](ho:o.op=.buildSlice T len parts)(hd:o.dst=some t)(hT:Ju X T=some e)(hk:Vg te)(hz1:te.zero.cells.toList.all Value.oneCell'=true)
  (hcs:QiF te.size (QeQ te.zero len) (σ.evParts parts.toList)=some cs) (hsp:Qio cs=some (pre,q,post)) (hpre:YP pre=some dpre) (hpost:YP post=some dpost) (hq:Qm σ.ob q=some (.row eq esq dq))
  (hfp:dpre.all D.flat1=true) (hfo:dpost.all D.flat1=true) (hfq:YT esq=true) (hl:Nat.beq (dpre.length+(1+dpost.length)) (len*te.size)=true) (hsm:Nat.ble (len*te.size) 16777216=true) (hes:Qc1 (chunk te.size len (dpre++.sl esq::dpost)) some=some es) (hf:Yz X.fre t σ.ob=true) (ht:Nat.blt t σ.nt=true)
  (hi:(X.P.info? eq).map (·.size)=some zq) (hzq:Nat.blt 0 zq=true) (hfr:Yz X.fre q ((t,.row e es true)::Ya (isPQ q q) (notN q) σ.ob)=true)
  (hK:K ⟨σ.nt,(t,.row t)::cutS (notN q) σ.sl,(q,.row eq [] true)::Ya (fun _=>false) (fun _=>true) ((t,.row e es true)::Ya (isPQ q q) (notN q) σ.ob)⟩):OpOk X o σ K:=
 Qhs (Vd ho hd hT hk hz1 hcs hsp hpre hpost hq hfp hfo hfq hl hsm hes hf ht rfl) (fun _ _ ⟨_,hr⟩=>⟨_,hr.addNil q hi (Jg hzq) hfr⟩) hK
theorem Qlm{s x:Operand}{T e:TypeId}{p q:Nat}{es es2:List (List D)}{n1 n2:Nat}[te:TI X.P e](ho:o.op=.call { callee:=.builtin .append,args:=#[s,x],argTypes:=#[T,T] })(hd:o.dst=some t)(hT:Ju X T=some e)
  (hs:σ.ev s=.row p) (hp:Qm σ.ob p=some (.row e es true)) (hx:σ.ev x=.row q) (hq:Qm σ.ob q=some (.row e es2 true)) (hpq:Nat.beq p q=false) (hk:Vg te) (hn1:es.length=n1) (hn2:es2.length=n2) (hb:n1+n2<=1099511627776) (hlo:X.fre p=true) (ht:Nat.blt t σ.nt=true)
  (hfr:Yz X.fre q ((p,.row e (es++es2) true)::Ya (isPQ p q) (QfF p q) σ.ob)=true)
  (hK:K ⟨σ.nt,(t,.row p)::cutS (QfF p q) σ.sl,(q,.row e [] true)::Ya (fun _=>false) (fun _=>true) ((p,.row e (es++es2) true)::Ya (isPQ p q) (QfF p q) σ.ob)⟩):OpOk X o σ K:=
 Qhs (JX ho hd hT hs hp hx hq hpq hk hn1 hn2 hb hlo ht rfl) (fun _ _ ⟨_,hr⟩=>⟨_,hr.addNil q te.sized (Jg hk.pos) hfr⟩) hK
end
end
section

section
variable {X:Cx} {σ:AS} {o:Oper} {K:AS->Prop} {t:Nat}
theorem Qhm{T e:TypeId}{x:Operand}{low high:Option Operand}{p m n i j:Nat}{es:List (List D)}{dp:Bool}{u v:Int}[te:TI X.P e](ho:o.op=.slice T x low high none)(hd:o.dst=some t)(hT:Ju X T=some e)(hx:σ.ev x=.sub p 0 m)(hp:Qm σ.ob p=some (.row e es dp))(hn:es.length=n)
  (hlo:σ.low low=some u) (hi:u=(i:Int)) (hhi:σ.high m high=some v) (hj:v=(j:Int)) (hb:i<=j/\j<=n) (ht:Nat.blt t σ.nt=true) (hK:K (σ.put t (.sub p i j))):QOk X o σ K:=by
 subst hi;subst hj;subst hn
 refine Je hd ht (fun a w en h=>?_) hK
 have hu:=QL hT
 obtain⟨y,hy,hyn,hya,A,c,g1,g2,g4,g5,g6⟩:=Qa2 h hp
 obtain⟨y',hy',e1,e2,⟨_,e3⟩,A',n',c',z,e4,e5,e6⟩:=QP h hx
 have:=h.mem.ent_unique hy' hy (e1.trans hyn.symm)
 subst this
 rw[g1]at e4
 injection e4 with f1 f2 f3
 subst f1;subst f3
 obtain⟨q,h12,_,h13,_⟩:=te.parts
 have hbnd:=fun w'=>Xp (P:=X.P) (w:=w') (isS:=true) (len:=m) (cap:=c) (Qgs h hlo) (QcC h hhi) hb.1 (Xao hb.2 g2)
 refine⟨subV A c te.size i j,fun w' _=>?_,y',hy',e1,e2,⟨hb.1,by rw[hya];simpa [AO.lens] using hb.2⟩,A,_,c,te.size,g1,g6,rfl⟩
 have e7:a.eval x=.slice A m c:=by
  rw[e6,subV,Xbh,Xby,Xby]
  have:(if c=0 then A else A.map (·.add 0))=A:=by
   split
   ·rfl
   ·cases A with
    | none=>rfl
    | some q=>rw[XaT];congr 1
  rw[this]
 simp only[execOp,ho,e7,Instr.sliceAt,Sem.run_bind,run_underlying hu,Instr.slice,Xcu,hbnd w',sizeOf,typeInfo,run_program,h12,h13,Sem.run_pure,Result.andThen]
 rfl
theorem QqV{p:Nat}{ao ao':AO}{v:AV}(hp:Qm σ.ob p=some ao)(hd:o.dst=some t)(ht:Nat.blt t σ.nt=true)(hrow:ao'.isRow=ao.isRow)(hlens:ao'.lens=ao.lens)(hdeep:ao'.deep=ao.deep)
  (h:∀a w en y,JO X σ a w en->y∈en->y.nm=p->y.ao=ao->EntOk X.P (Frs X.w0 X.O) w en (IM X en w) y->∃(g:Nat) (cur:Array Value) (u:Value),blk y.val=some g/\(execOp a.eval o).run X.P w=.ok (.value u) (w.setRow g cur)/\
   v.shows (w.setRow g cur) (⟨p,ao',y.val,y.fs⟩::JC (fun _=>true) p en) (IM X (⟨p,ao',y.val,y.fs⟩::JC (fun _=>true) p en) (w.setRow g cur)) u/\
   EntOk X.P (Frs X.w0 X.O) (w.setRow g cur) (⟨p,ao',y.val,y.fs⟩::JC (fun _=>true) p en) (IM X (⟨p,ao',y.val,y.fs⟩::JC (fun _=>true) p en) (w.setRow g cur)) ⟨p,ao',y.val,y.fs⟩)
  (hK:K ⟨σ.nt,(t,v)::σ.sl,(p,ao')::YB p σ.ob⟩):OpOk X o σ K:=by
 intro a w hr next Q hn
 obtain⟨en,h1⟩:=hr
 obtain⟨y,hy,hyn,hya⟩:=h1.ent hp
 obtain⟨g,cur,u,h2,h3,h5,h4⟩:=h a w en y h1 hy hyn hya (h1.mem.ok y hy)
 have hs:Qef X.P X.w0 X.Z X.O en w (w.setRow g cur) p ⟨p,ao',y.val,y.fs⟩ (fun _=>true):=
  ⟨h1.mem,fun _ _=>rfl,fun _ x hx e=>by
    have:=h1.mem.ent_unique hx hy (e.trans hyn.symm)
    subst this
    exact⟨e.symm,rfl,by rw[hya];exact hrow,by rw[hya];exact hlens⟩,rfl,rfl,rfl,by simp,
   fun b hb hno=>setRow_other w g b cur (fun e=>hno y hy hyn (e▸h2)),fun b hb=>.inr ⟨y,hy,hyn,by
   rcases hb with hb|⟨hd,hb⟩
   ·exact .inl hb
   ·exact .inr ⟨by rw[hya,<-hdeep];exact hd,hb⟩⟩,rfl,hyn▸h1.mem.fix y hy⟩
 have h7:=h1.swap_keep hs h4 (fun hd z hz hzn hdz b hb=>by
  exact h1.mem.apart_ne hy hz (fun e=>hzn (e.symm.trans hyn)) (by rw[hya,<-hdeep];exact hd) hdz hb)
 unfold Oper.wp
 rw[h3,Oper.upon_value,hd]
 exact hn _ _ _ hK ⟨_,h7.put h5 ht⟩
theorem Qpu{s x:Operand}{T e:TypeId}{p i j n m:Nat}{es:List (List D)}{dp:Bool}[te:TI X.P e](ho:o.op=.call { callee:=.builtin .append,args:=#[s,x],argTypes:=#[T,T] })(hd:o.dst=some t)(hT:Ju X T=some e)
  (hs:σ.ev s=.sub p 0 i) (hx:σ.ev x=.sub p j n) (hp:Qm σ.ob p=some (.row e es dp)) (hk:Vg te) (hfl:YT es=true) (hn:es.length=n) (hij:i<j/\j<=n) (hm:i+(n-j)=m) (ht:Nat.blt t σ.nt=true)
  (hK:K ⟨σ.nt,(t,.sub p 0 m)::σ.sl,(p,.row e (es.take i++(es.drop j++es.drop m)) dp)::YB p σ.ob⟩):OpOk X o σ K:=by
 subst hn;subst hm
 have hpos:=Jg hk.pos
 intro a w hr
 obtain⟨en0,h0⟩:=id hr
 obtain⟨y1,hy1,g1,g2,_,_,_,_,_,_,g3⟩:=Qa2 h0 hp
 have hsz:∀el∈es,el.length=te.size:=fun el hel=>g3 _ (by rw[g2];exact Xad.2 ⟨el,hel,rfl⟩)
 have hlen':(es.take i++(es.drop j++es.drop (i+(es.length-j)))).length=es.length:=by
  simp only[Xac,Xai,XaN]
  omega
 refine QqV (ao':=.row e (es.take i++(es.drop j++es.drop (i+(es.length-j)))) dp) (v:=.sub p 0 (i+(es.length-j))) hp hd ht rfl ?_ rfl (fun a w en z h1 hz hzn hza hok=>?_) hK a w hr
 ·simp only[AO.lens]
  refine List.ext_getElem? fun k=>?_
  have key:∀(l:List (List D)),(∀el∈l,el.length=te.size)->∀k,(l.map List.length)[k]?=if k<l.length then some te.size else none:=fun l hl k=>by
   rw[List.getElem?_map]
   split
   ·rename_i hk
    rw[List.getElem?_eq_getElem hk,XaT,hl _ (Xbf hk)]
   ·rename_i hk
    rw[List.getElem?_eq_none (by omega)]
    rfl
  rw[key _ hsz,key,hlen']
  intro el hel
  rcases Xag.1 hel with h|h
  ·exact hsz _ (XaC h)
  ·rcases Xag.1 h with h|h
   ·exact hsz _ (XaK h)
   ·exact hsz _ (XaK h)
 ·unfold EntOk at hok
  rw[hza]at hok
  obtain⟨s',us,k0,k1,k2,k3,k4,k5,k6,k7⟩:=hok
  have hss:s'=te.size:=by rw[te.sized]at k0;simpa using k0.symm
  subst hss
  obtain⟨z1,hz1,e1,e2,_,A1,n1,c1,s1,e4,e5,e6⟩:=QP h1 hs
  have:=h1.mem.ent_unique hz1 hz (e1.trans hzn.symm)
  subst this
  obtain⟨z2,hz2,b1,b2,_,A2,n2,c2,s2,b4,b5,b6⟩:=QP h1 hx
  have:=h1.mem.ent_unique hz2 hz (b1.trans hzn.symm)
  subst this
  rcases k2.2 with ⟨hv,hn0⟩|⟨g,cap,cur,hv,hbg,hg,hnc,hcm,hcs,htake⟩
  ·omega
  ·rw[hv]at e4 b4
   injection e4 with e7 e8 e9
   injection b4 with b7 b8 b9
   subst e7;subst e9;subst b7;subst b9
   have hz0:∀q,(∀l∈z2.ao.lens,l=q)->q=te.size:=fun q hq=>by
    obtain⟨el,hel⟩:∃el,el∈es:=by
     cases es with
     | nil=>simp at hij;omega
     | cons q l=>exact⟨q,Xaa⟩
    rw[<-hq el.length (by rw[hza];exact Xad.2 ⟨el,hel,rfl⟩),hsz el hel]
   have:=hz0 s1 e5;subst this
   have:=hz0 s2 b5;subst this
   have hfs:=Yt k4 (Yd hfl)
   rw[hfs]at k4
   have hul:us.length=es.length*te.size:=k2.1
   have hcl:cur.toList.length=cap*te.size:=by rw[Xay];exact hcs
   have hes:a.eval s=.slice (some ⟨g,0,none⟩) i cap:=by
    rw[e6,subV,Xbh,Xby,Xby]
    have:(if cap=0 then(some ⟨g,0,none⟩:Option Addr) else(some (⟨g,0,none⟩:Addr)).map (·.add 0))=some ⟨g,0,none⟩:=by
     split
     ·rfl
     ·rw[XaT];congr 1
    rw[this]
   obtain⟨news,hnews⟩:∃news,news=us.drop (j*te.size):=⟨_,rfl⟩
   have hjs:j*te.size+(es.length-j)*te.size=es.length*te.size:=by rw[<-XaR];congr 1;omega
   have hnl:news.length=(es.length-j)*te.size:=by rw[hnews,XaN,hul];omega
   obtain⟨ad,had,hsrc⟩:∃ad:Addr,a.eval x=.slice (some ad) (es.length-j) (cap-j)/\∀k u,news[k]?=some u->w.cell? (ad.add k)=some u:=by
    by_cases hcj:cap=j
    ·refine⟨⟨g,0,none⟩,by rw[b6,subV,if_pos hcj],fun k u hu=>?_⟩
     have:news.length=0:=by rw[hnl,show es.length-j=0 by omega,Xbh]
     rw[Xbi.1 this]at hu
     simp at hu
    ·refine⟨⟨g,0+j*te.size,none⟩,by rw[b6,subV,if_neg hcj,XaT,J5],fun k u hu=>?_⟩
     have hk':us[j*te.size+k]?=some u:=by rw[<-hu,hnews,List.getElem?_drop]
     have hlt:=(List.getElem?_eq_some_iff.1 hk').1
     rw[J5,XaZ]
     have:=World.ownsRow.cellAt (show w.ownsRow 0 e te.size (.slice (some ⟨g,0,none⟩) es.length cap) es.length us by rw[<-hv];exact k2) (j*te.size+k) (by rw[hul]at hlt;exact hlt)
     rw[this]
     exact hk'
   have h1c:∀v∈news,v.oneCell'=true:=fun v hv=>ZU k4 v (XaK (hnews▸hv))
   have hfit:0+i*te.size+0+news.length<=cur.size:=by
    rw[hnl,hcs,XaZ,XbI,<-XaR]
    exact XaH _ (by omega)
   have hst:=run_storeCells_at X.P g (0+i*te.size) e news 0 cur w hg hfit h1c
   obtain⟨qi,q1,_,q3,_⟩:=te.parts
   have hfc:=run_firstCells_some (P:=X.P) w te.size (es.length-j) ad (es.length-j) (cap-j) news hnl hsrc
   have hu:=QL hT
   let cur':=(cur.toList.take (0+i*te.size+0)++news++cur.toList.drop (0+i*te.size+0+news.length)).toArray
   have hrun:(Builtin.append_ #[T,T] o.type #[a.eval s,a.eval x]).run X.P w=.ok (.slice (some ⟨g,0,none⟩) (i+(es.length-j)) cap) (w.setRow g cur'):=by
    rw[hes,had]
    have hroom:i+(es.length-j)<=cap:=by omega
    simp[Builtin.append_,run_underlying hu,sizeOf,typeInfo,q1,q3,Builtin.lenOf,hroom,hfc,Addr.add_lit]
    simp only[XaZ]at hst
    rw[hst]
    simp[cur']
   refine⟨g,cur',.slice (some ⟨g,0,none⟩) (i+(es.length-j)) cap,by rw[hv];rfl,?_,⟨_,Xaa,rfl,rfl,⟨Xab _,by simp only[AO.lens,Xah,hlen'];omega⟩,some ⟨g,0,none⟩,es.length,cap,te.size,hv,fun l hl=>?_,?_⟩,?_⟩
   ·simp only[execOp,ho,resolve,Sem.run_bind,Sem.run_pure,Result.andThen,invoke,builtin,Xbr,Xaw,Xbb]
    rw[hrun]
   ·simp only[AO.lens]at hl
    obtain⟨el,hel,rfl⟩:=Xad.1 hl
    rcases Xag.1 hel with h|h
    ·exact hsz _ (XaC h)
    ·rcases Xag.1 h with h|h
     ·exact hsz _ (XaK h)
     ·exact hsz _ (XaK h)
   ·rw[subV,Xbh,Xby,Xby]
    have:(if cap=0 then(some ⟨g,0,none⟩:Option Addr) else(some (⟨g,0,none⟩:Addr)).map (·.add 0))=some ⟨g,0,none⟩:=by
     split
     ·rfl
     ·rw[XaT];congr 1
    rw[this]
   ·-- the cells
    have hrt:∀k,k<=es.length->repE w (es.take k) (us.take (k*te.size)) []/\repE w (es.drop k) (us.drop (k*te.size)) []:=fun k hk=>by
     have h4:=k4
     rw[<-XaO k es]at h4
     obtain⟨u1,u2,F1,F2,rfl,hF,r1,r2⟩:=Yg h4
     have hF1:F1=[]/\F2=[]:=by
      have:=congrArg List.length hF
      simp only[XaU,Xac]at this
      exact⟨XaA (by omega),XaA (by omega)⟩
     obtain⟨rfl,rfl⟩:=hF1
     have hu1:u1.length=k*te.size:=by
      rw[Q6 r1 (fun x hx=>hsz x (XaC hx)),Xai,Xcv hk]
     rw[<-hu1,Xb5,Xb6]
     exact⟨r1,r2⟩
    have r1:=(hrt i (by omega)).1
    have r2:=(hrt j hij.2).2
    have r3:=(hrt (i+(es.length-j)) (by omega)).2
    obtain⟨us',hus'⟩:∃us',us'=us.take (i*te.size)++(news++us.drop ((i+(es.length-j))*te.size)):=⟨_,rfl⟩
    have hrep0:repE w (es.take i++(es.drop j++es.drop (i+(es.length-j)))) us' []:=by
     rw[<-hnews]at r2
     have:=J3 r1 (J3 r2 r3)
     rw[hus']
     simpa using this
    have hrep:=QH (w':=w.setRow g cur') (by simp) _ _ _ hrep0 (by simp)
    have hil:i*te.size<=es.length*te.size:=XaH _ (by omega)
    have hml:(i+(es.length-j))*te.size<=es.length*te.size:=XaH _ (by omega)
    have hmi:(i+(es.length-j))*te.size=i*te.size+news.length:=by rw[hnl,XaR]
    have hus'l:us'.length=es.length*te.size:=by
     rw[hus']
     have hml2:=hml
     rw[hmi]at hml2
     rw[Xac,Xac,Xai,XaN,hul,Xcv hil,hmi]
     omega
    have hcc:es.length*te.size<=cap*te.size:=XaH _ hnc
    have hcu:cur'.toList=cur.toList.take (i*te.size)++news++cur.toList.drop (i*te.size+news.length):=by simp[cur']
    have hcur:cur.toList=us++cur.toList.drop (es.length*te.size):=by rw[<-htake,XaO]
    have htk:cur'.toList.take (es.length*te.size)=us':=by
     rw[hcu,hcur]
     have t1:(us++cur.toList.drop (es.length*te.size)).take (i*te.size)=us.take (i*te.size):=Xa8 (by rw[hul];exact hil)
     have t2:(us++cur.toList.drop (es.length*te.size)).drop (i*te.size+news.length)=us.drop (i*te.size+news.length)++cur.toList.drop (es.length*te.size):=XbG (by rw[hul,<-hmi];exact hml)
     rw[t1,t2,<-Xaq,Xa8]
     ·rw[<-hmi,Xaq,<-hus']
      exact Xaz (by rw[hus'l];exact Xam _)
     ·rw[<-hmi,Xaq,<-hus',hus'l]
      exact Xam _
    unfold EntOk
    refine⟨te.size,us',k0,k1,?_,fun el hel=>?_,?_,by rw[hfs];simp,k6,fun _=>⟨by rw[hfs];simp,by rw[hfs];simp,NstL.nilE hrep⟩⟩
    ·refine⟨by rw[hlen'];exact hus'l,.inr ⟨g,cap,cur',by rw[hv,hlen'],Xab _,setRow_heap w g cur cur' e _ hg,by rw[hlen'];exact hnc,hcm,?_,by rw[hlen'];exact htk⟩⟩
     have h5:cur'.toList.length=cap*te.size:=by
      have hml2:=hml
      rw[hmi]at hml2
      rw[hcu,Xac,Xac,Xai,XaN,hcl]
      omega
     rw[<-h5,Xay]
    ·rcases Xag.1 hel with h|h
     ·exact hsz _ (XaC h)
     ·rcases Xag.1 h with h|h
      ·exact hsz _ (XaK h)
      ·exact hsz _ (XaK h)
    ·rw[hfs]
     exact hrep
variable {Q:Exit->AS->Prop}
theorem Ql1(s:Nat){p m:Nat}{e:TypeId}{es:List (List D)}{dp:Bool}{c:Code}(hv:look σ.sl s=.sub p 0 m)(hp:Qm σ.ob p=some (.row e es dp))(hfl:YT es=true)(hm:m<=es.length)(hlo:X.fre p=true)
  (h:AWp X c Q ⟨σ.nt,(s,.row p)::cutS (notN p) σ.sl,(p,.row e (es.take m) dp)::Ya (isPQ p p) (notN p) σ.ob⟩):AWp X c Q σ:=by
 intro a w hr
 obtain⟨en,h1⟩:=hr
 obtain⟨y,hy,hyn,hya⟩:=h1.ent hp
 have hok:=h1.mem.ok y hy
 unfold EntOk at hok
 rw[hya]at hok
 obtain⟨z,us,k0,k1,k2,k3,k4,k5,k6,k7⟩:=hok
 have hfs:=Yt k4 (Yd hfl)
 rw[hfs]at k4
 have hsl:=h1.slots s
 rw[hv]at hsl
 obtain⟨y',hy',e1,e2,_,A,n,cc,z',e4,e5,e6⟩:=hsl
 have:=h1.mem.ent_unique hy' hy (e1.trans hyn.symm)
 subst this
 have hval:a.tmps.getD s undef=.slice A m cc:=by
  rw[e6,subV,Xbh,Xby,Xby]
  have:(if cc=0 then A else A.map (·.add 0))=A:=by
   split
   ·rfl
   ·cases A with
    | none=>rfl
    | some q=>rw[XaT];congr 1
  rw[this]
 have hblk:blk (a.tmps.getD s undef)=blk y'.val:=by
  rw[hval,e4]
  cases A <;> rfl
 have hmz:m*z<=es.length*z:=XaH _ hm
 have hown:w.ownsRow 0 e z (.slice A m cc) m (us.take (m*z)):=by
  refine⟨by rw[Xai,k2.1];omega,?_⟩
  rcases k2.2 with ⟨hv0,hn0⟩|⟨g,cap,cur,hv0,hbg,hg,hnc,hcm,hcs,htake⟩
  ·rw[hv0]at e4
   injection e4 with f1 f2 f3
   subst f1;subst f3
   have:m=0:=by omega
   subst this
   exact .inl ⟨rfl,rfl⟩
  ·rw[hv0]at e4
   injection e4 with f1 f2 f3
   subst f1;subst f3
   exact .inr ⟨g,cap,cur,rfl,hbg,hg,by omega,hcm,hcs,by rw[<-htake,Xcz];congr 1;omega⟩
 have hrep:repE w (es.take m) (us.take (m*z)) []:=by
  have h4:=k4
  rw[<-XaO m es]at h4
  obtain⟨u1,u2,F1,F2,rfl,hF,r1,r2⟩:=Yg h4
  have hF1:F1=[]:=by
   have:=congrArg List.length hF
   simp only[XaU,Xac]at this
   exact XaA (by omega)
  subst hF1
  have hu1:u1.length=m*z:=by
   rw[Q6 r1 (fun x hx=>k3 x (XaC hx)),Xai,Xcv hm]
  rw[<-hu1,Xb5]
  exact r1
 let x':Ent:=⟨p,.row e (es.take m) dp,a.tmps.getD s undef,[]⟩
 have hs:X7 X.P X.w0 X.Z X.O en w w (isPQ p p) [x'] (notN p):=by
  refine⟨h1.mem,fun n hn=>Q1.2 (.inl ?_),fun x hx hd hpx=>?_,rfl,rfl,rfl,Xam _,fun b _ _=>rfl,fun q hq b hb=>?_,fun q hq x hx hd e=>?_,by simp,by simp,fun q hq=>?_⟩
  ·unfold notN at hn
   exact(Qg _ _).1 (by simpa using hn)
  ·have:x.nm=p:=(Q1.1 hd).elim id id
   rw[this,VO]at hpx;cases hpx
  ·obtain rfl:q=x':=by simpa using hq
   refine .inr ⟨y',hy',Q1.2 (.inl hyn),.inl ?_⟩
   rcases hb with hb|⟨_,hb⟩
   ·rw[<-hblk];exact hb
   ·cases hb
  ·obtain rfl:q=x':=by simpa using hq
   rw[Q1.2 (.inl e)]at hd;cases hd
  ·obtain rfl:q=x':=by simpa using hq
   exact X.Z.lo _ _ hlo
 have h9:=h1.swap2 hs (fun q hq=>by
  obtain rfl:q=x':=by simpa using hq
  unfold EntOk
  have hml:(es.take m).length=m:=by rw[Xai];omega
  exact⟨z,us.take (m*z),k0,k1,by rw[hml];show w.ownsRow 0 e z (a.tmps.getD s undef) m _;rw[hval];exact hown,fun el hel=>k3 el (XaC hel),hrep,fun _ b hb=>(by cases hb),fun g hg=>k6 g (by rw[<-hblk];exact hg),fun _=>⟨List.nodup_nil,fun b hb=>(by cases hb),NstL.nilE hrep⟩⟩)
 refine h a w ⟨_,h9.mem,h9.ob,h9.defers,h9.size,fun t=>?_⟩
 simp only[QM]
 split
 ·rename_i e1
  subst e1
  exact⟨x',by simp,rfl,rfl,rfl⟩
 ·exact h9.slots t
def renN(p q n:Nat):Nat:=bif Nat.beq n p then q else n
theorem J8(p q:Nat){c:Code}(hf:Yz X.fre q σ.ob=true)
  (h:AWp X c Q ⟨σ.nt,σ.sl.map fun y=>(y.1,y.2.mapN (renN p q)),σ.ob.map fun y=>(renN p q y.1,y.2.mapN (renN p q))⟩):AWp X c Q σ:=by
 intro a w hr
 obtain⟨en,h1⟩:=hr
 have m:=h1.mem
 let γ:=renN p q
 let g:Ent->Ent:=fun y=>⟨γ y.nm,y.ao.mapN γ,y.val,y.fs⟩
 have hfr:∀x∈en,x.nm≠q:=fun x hx e=>by
  have:hasN q σ.ob=true:=Q9.2 ⟨x.key,h1.ob.mem_iff.1 (Xad.2 ⟨x,hx,rfl⟩),e⟩
  rw[(Q0 hf).1]at this;cases this
 have hγ:∀x∈en,(x.nm=p/\γ x.nm=q)\/(x.nm≠p/\γ x.nm=x.nm):=fun x hx=>by
  show(_/\renN p q x.nm=q)\/(_/\renN p q x.nm=x.nm)
  unfold renN
  cases hb:Nat.beq x.nm p with
  | true=>exact .inl ⟨(Qg _ _).1 hb,rfl⟩
  | false=>exact .inr ⟨fun e=>(by rw[(Qg _ _).2 e]at hb;cases hb),rfl⟩
 have hinj:∀x∈en,∀y∈en,γ x.nm=γ y.nm->x.nm=y.nm:=fun x hx y hy e=>by
  rcases hγ x hx with ⟨h2,h3⟩|⟨h2,h3⟩ <;> rcases hγ y hy with ⟨h4,h5⟩|⟨h4,h5⟩
  ·rw[h2,h4]
  ·exact absurd (h5.symm.trans (e.symm.trans h3)) (hfr y hy)
  ·exact absurd (h3.symm.trans (e.trans h5)) (hfr x hx)
  ·rw[<-h3,<-h5,e]
 have hgd:∀(y:Ent) (b:Nat),(g y).hd b↔y.hd b:=fun y b=>by
  show(blk y.val=some b\/((y.ao.mapN γ).deep=true/\b∈y.fs))↔_
  rw[AO.mapN_deep]
  rfl
 have hI:∀b,IM X en w b->IM X (en.map g) w b:=fun b hb=>⟨hb.1,hb.2.1,fun y hy e=>by
  obtain⟨z,hz,rfl⟩:=Xad.1 hy
  exact hb.2.2 z hz ((hgd z b).1 e)⟩
 have hm:∀x∈en,∃y∈en.map g,y.nm=γ x.nm/\y.val=x.val/\y.ao.isRow=x.ao.isRow/\y.ao.lens=x.ao.lens:=fun x hx=>⟨g x,Xad.2 ⟨x,hx,rfl⟩,rfl,rfl,AO.mapN_isRow _ _,AO.mapN_lens _ _⟩
 refine h a w ⟨en.map g,⟨m.os,m.tape,m.output,m.size,m.old,?_,?_,?_,?_,?_⟩,?_,h1.defers,h1.size,fun t=>?_⟩
 ·have h3:=m.names
  rw[XaS]
  unfold List.Nodup at h3 ⊢
  rw[Xbg]at h3 ⊢
  exact h3.imp_of_mem fun hx hy hxy e=>hxy (hinj _ hx _ hy e)
 ·rw[Xbg]
  exact m.blks.imp fun {x y} hxy b hb hb'=>hxy b ((hgd x b).1 hb) ((hgd y b).1 hb')
 ·intro y hy
  obtain⟨z,hz,rfl⟩:=Xad.1 hy
  have hok:=m.ok z hz
  unfold EntOk at hok
  split at hok
  ·rename_i e es dp hao
   obtain⟨s,us,k0,k1,k2,k3,k4,k5,k6,k7⟩:=hok
   unfold EntOk
   simp only[g,hao,AO.mapN]
   exact⟨s,us,k0,k1,k2,k3,k4,fun hd b hb=>hI b (k5 hd b hb),k6,k7⟩
  ·rename_i e cs hao
   obtain⟨k0,q,cur,k1,k2,k3,k4⟩:=hok
   unfold EntOk
   simp only[g,hao,AO.mapN]
   exact⟨k0,q,cur,k1,k2,k3,Wl hI hm cs _ k4⟩
 ·rw[Xbg]
  exact m.apart.imp fun {x y} hxy h1 h2 b hb hb'=>hxy (by rw[<-AO.mapN_deep γ];exact h1) (by rw[<-AO.mapN_deep γ];exact h2) b hb hb'
 ·intro y hy
  obtain⟨z,hz,rfl⟩:=Xad.1 hy
  show X.Z.fx (γ z.nm) z.val
  rcases hγ z hz with ⟨_,h3⟩|⟨_,h3⟩
  ·rw[h3];exact X.Z.lo _ _ (Q0 hf).2
  ·rw[h3];exact m.fix z hz
 ·have e1:(en.map g).map Ent.key=(en.map Ent.key).map fun y=>(γ y.1,y.2.mapN γ):=by simp only[XaS];rfl
  rw[e1]
  exact h1.ob.map _
 ·have key:∀(sl:List (Nat×AV)) (t:Nat),look (sl.map fun y=>(y.1,y.2.mapN γ)) t=(look sl t).mapN γ:=fun sl=>by
   induction sl with
   | nil=>intro t;rfl
   | cons y l ih=>
    intro t
    obtain⟨k,v⟩:=y
    simp only[Xaw,QM]
    split
    ·rfl
    ·exact ih t
  show(look (σ.sl.map fun y=>(y.1,y.2.mapN (renN p q))) t).shows _ _ _ _
  rw[key]
  exact AV.shows_mapN hI hm _ _ (h1.slots t)
end
end
end Go.Proofs.YtihgfennoalocaaGreat
