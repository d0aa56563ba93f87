/-
  Regions that draw their order, with operations that make or write memory: one operation by itself, and what stands beside it.
-/
import Derived.Test.YtkdniahincpmaaaGreatQB2
import Derived.Lib.AppendStr
set_option maxRecDepth 100000
set_option maxHeartbeats 16000000
namespace Go.Proofs.YtkdniahincpmaaaGreat
open Go Go.RowKit
section

@[ext] structure Fs where
 f:Nat->AV
 g:Nat->Option AO
def AS.fs(σ:AS):Fs:=⟨look σ.sl,Ql σ.ob⟩
structure Lo where
 rs:List (Nat×AV)
 ro:List (Nat×AO)
 fr:List Nat
 d:Option Nat
 v:AV
 wo:List (Nat×AO)
 kl:List Nat
def Yv(kl:List Nat)(n:Nat):Bool:=!kl.any fun k=>Nat.beq k n
def allP{α:Type}(p:α->Prop):List α->Prop
 | []=>True
 | x::l=>p x/\allP p l
theorem Jq{α:Type}{p:α->Prop}:∀{l:List α},allP p l↔∀x∈l,p x
 | []=>⟨fun _ x hx=>(by cases hx),fun _=>trivial⟩
 | y::l=>by
  simp only[allP,Jq (l:=l),Xai,forall_eq_or_imp]
structure Lo.Pre (lo:Lo) (s:Fs):Prop where
 rs:allP (fun y=>s.f y.1=y.2) lo.rs
 ro:allP (fun y=>s.g y.1=some y.2) lo.ro
 fr:allP (fun p=>s.g p=none) lo.fr
def Lo.app(lo:Lo)(s:Fs):Fs where
 f t:=if lo.d=some t then lo.v else(s.f t).cut (Yv lo.kl)
 g p:=match Ql lo.wo p with
  | some ao=>some ao
  | none=>(s.g p).map (AO.cut (Yv lo.kl))
def RelF(X:Cx)(nt:Nat)(s:Fs)(a:Act)(w:World):Prop:=∃σ:AS,σ.nt=nt/\σ.fs=s/\Rel X σ a w
def LoOk(X:Cx)(nt:Nat)(o:Oper)(lo:Lo):Prop:=∀s a w,RelF X nt s a w->lo.Pre s->∀next Q,(∀a' w',RelF X nt (lo.app s) a' w'->next a' w')->o.wp X.P a w next Q

def LoG(X:Cx)(nt:Nat)(ops:Array Oper)(o:Oper)(lo:Lo):Prop:=∀s a w,RelF X nt s a w->lo.Pre s->∀next Q,(∀a' w',RelF X nt (lo.app s) a' w'->next a' w')->
 if Region.wanted o (yielded ops a.tmps)=true then o.wp X.P a w next Q\/(o.asks X.P a w/\LetsOut Q)else next (a.put o.dst undef) w
theorem LoOk.g{X:Cx}{nt:Nat}{ops:Array Oper}{o:Oper}{lo:Lo}(h:LoOk X nt o lo)(hg:o.guard=none):LoG X nt ops o lo:=fun s a w hr hp next Q hn=>by
 simp only[Region.wanted,hg,if_true]
 exact .inl (h s a w hr hp next Q hn)
theorem LoOk.yes{X:Cx}{nt:Nat}{ops:Array Oper}{o:Oper}{lo:Lo}{j d:Nat}{t:Bool}(h:LoOk X nt o lo)(hg:o.guard=some (j,t))(hd:(ops[j]?).bind (·.dst)=some d):LoG X nt ops o { lo with rs:=(d,.d (.b t))::lo.rs }:=fun s a w hr hp next Q hn=>by
 have c:lo.Pre s:=⟨hp.rs.2,hp.ro,hp.fr⟩
 obtain⟨σ,h1,e,en,f⟩:=id hr
 have g:look σ.sl d=.d (.b t):=by
  have:=hp.rs.1
  rw[<-e]at this
  exact this
 have i:yielded ops a.tmps j=some t:=by
  unfold yielded
  rw[hd,Xbc,f.tmp_some g]
 simp only[Region.wanted,hg,i,beq_self_eq_true,if_true]
 exact .inl (h s a w hr c next Q hn)
theorem Qm5{X:Cx}{nt:Nat}{o:Oper}{s:Fs}{a:Act}{w:World}{l:List (Nat×AV)}(hr:RelF X nt s a w)(ht:∀q,o.dst=some q->Nat.blt q nt=true):RelF X nt (Lo.app ⟨l,[],[],o.dst,.tup [],[],[]⟩ s) (a.put o.dst undef) w:=by
 obtain⟨σ,b,d,c,e⟩:=hr
 cases f:o.dst with
 | none=>
  refine⟨σ,b,?_,c,e⟩
  rw[<-d]
  refine Fs.ext ?_ ?_
  ·funext u
   simp only[AS.fs,Lo.app,reduceCtorEq,if_false]
   exact(AV.cut_true _).symm
  ·funext u
   simp only[AS.fs,Lo.app,Ql]
   cases Ql σ.ob u with
   | none=>rfl
   | some z=>exact congrArg some (AO.cut_true z).symm
 | some q=>
  refine⟨σ.put q (.tup []),b,?_,c,e.put ⟨[],rfl,rfl⟩ (by rw[b];exact ht q f)⟩
  rw[<-d]
  refine Fs.ext ?_ ?_
  ·funext u
   simp only[AS.fs,AS.put,Lo.app,QQ,Xak]
   split
   ·rfl
   ·exact(AV.cut_true _).symm
  ·funext u
   simp only[AS.fs,AS.put,Lo.app,Ql]
   cases Ql σ.ob u with
   | none=>rfl
   | some z=>exact congrArg some (AO.cut_true z).symm
theorem Qyr{X:Cx}{nt:Nat}{ops:Array Oper}{o:Oper}{j d:Nat}{t t':Bool}(hg:o.guard=some (j,t))(hd:(ops[j]?).bind (·.dst)=some d)(hne:(t'==t)=false)(ht:∀q,o.dst=some q->Nat.blt q nt=true):LoG X nt ops o ⟨[(d,.d (.b t'))],[],[],o.dst,.tup [],[],[]⟩:=fun s a w hr hp next Q hn=>by
 obtain⟨σ,h1,e,en,f⟩:=id hr
 have g:look σ.sl d=.d (.b t'):=by
  have:=hp.rs.1
  rw[<-e]at this
  exact this
 have h:yielded ops a.tmps j=some t':=by
  unfold yielded
  rw[hd,Xbc,f.tmp_some g]
 have c:(some t'==some t)=false:=hne
 simp only[Region.wanted,hg,h,c,XaT,if_false]
 exact hn _ _ (Qm5 hr ht)
theorem QiK{kl:List Nat}{n:Nat}:Yv kl n=true↔n∉kl:=by
 unfold Yv
 rw[Xa6,XcE]
 refine⟨fun h hn=>h n hn ((Qg _ _).2 rfl),fun h k hk e=>h ((Qg _ _).1 e▸hk)⟩
structure LoS (P:Program) (tt:(T:TypeId)->Option (TI P T)) (nt:Nat) (o:Oper) (lo:Lo) (fre:Nat->Bool) (ob':List (Nat×AO)):Prop where
 op:∀(w0:World) (Z:ZV fre) (O:Nat->Prop),OpOk ⟨P,w0,fre,Z,O,tt⟩ o ⟨nt,lo.rs,lo.ro⟩ (fun σ'=>σ'.nt=nt/\(∀d,lo.d=some d->look σ'.sl d=lo.v)/\σ'.ob=ob')
 dst:o.dst=lo.d
 /-- what is read speaks of what is read alone -/
 closed:AS.closed ⟨nt,lo.rs,lo.ro⟩=true
 spl:allP (fun y=>Ql lo.wo y.1=some y.2\/(Ql lo.wo y.1=none/\(Ql lo.ro y.1).map (AO.cut (Yv lo.kl))=some y.2)) ob'
 fre:∀n,hasN n lo.ro=true->fre n=true->n∈lo.kl
 keep:∀n ao,(n,ao)∈lo.ro->n∉lo.kl->∃ao',(n,ao')∈ob'/\((ao.isRow=false/\ao'.isRow=false)\/∃e es es' dp dp',ao=.row e es dp/\ao'=.row e es' dp')
 all:∀n,hasN n lo.ro=true\/hasN n lo.wo=true->hasN n ob'=true
 made:∀n ao,(n,ao)∈ob'->hasN n lo.ro=true\/n∈lo.fr
 flat:∀n e es,(n,AO.row e es true)∈lo.ro->True
theorem QxS{P:Program}{o:Oper}{a:Act}{w:World}{R:Act->World->Prop}{Q:Exit->Act->World->Prop}(hd:∀a' w',R a' w'->a'.defers=[])(h:o.wp P a w R Q):o.wp P a w (fun a' w'=>R a' w'/\∃u,a'=a.put o.dst u) Q:=by
 unfold Oper.wp at *
 generalize (execOp a.eval o).run P w=r at *
 cases r with
 | ok n w'=>
  cases n <;> simp only[Oper.upon]at h ⊢
  case value v=>exact⟨h,v,rfl⟩
  case skip=>exact⟨h,_,rfl⟩
  case enter f args=>exact Calls.mono h (fun e w'' he=>by cases e <;> first|exact⟨he,_,rfl⟩|exact he)
  case row f args=>exact Rows.mono h (fun _ _ he=>⟨he,_,rfl⟩)
  case defer d=>
   have:=hd _ _ h
   unfold Act.put at this
   split at this <;> cases this
 | halt x w'=>cases x <;> simp only[Oper.upon]at h ⊢ <;> exact h
theorem QmD{P:Program}{Fr:Nat->Prop}{w:World}{en:List Ent}{I:Nat->Prop}{x:Ent}{e:TypeId}{es:List (List D)}{dp:Bool}(h:EntOk P Fr w en I x)(ha:x.ao=.row e es dp):∃z n,(P.info? e).map (·.size)=some z/\x.ao.lens=List.replicate n z/\∃A c,x.val=.slice A n c:=by
 unfold EntOk at h
 rw[ha]at h
 obtain⟨z,us,f,k1,g,i,_⟩:=h
 obtain⟨A,c,d,_⟩:=JK g
 refine⟨z,es.length,f,?_,A,c,d⟩
 rw[ha]
 exact List.eq_replicate_iff.2 ⟨by simp[AO.lens],fun l hl=>by
  obtain⟨b,a,rfl⟩:=Xaf.1 hl
  exact i b a⟩
theorem QcL{l r:List (Nat×AO)}{p:Nat}:Ql (l++r) p=match Ql l p with
  | some x=>some x
  | none=>Ql r p:=by
 induction l with
 | nil=>rfl
 | cons y l ih=>
  obtain⟨k,x⟩:=y
  rw[Xbp,Vu,Vu,ih]
  split <;> rfl
theorem Wn{l:List (Nat×AO)}{p:Nat}:(Ql l p).isSome=hasN p l:=by
 induction l with
 | nil=>rfl
 | cons y l ih=>
  obtain⟨k,x⟩:=y
  simp only[Ql,hasN]
  cases Nat.beq k p <;> simp[ih]
theorem Qac(q:Nat->Bool)(kp:Nat->Bool):∀(l:List (Nat×AO)) (p:Nat),Ql ((l.filter fun y=>!q y.1).map fun y=>(y.1,y.2.cut kp)) p=if q p=true then none else(Ql l p).map (AO.cut kp)
 | [],p=>by simp[Ql]
 | (k,x)::l,p=>by
  have ih:=Qac q kp l p
  rw[Xa7]
  by_cases hk:q k=true
  ·rw[if_neg (by simp[hk]),ih,Vu]
   by_cases hq:q p=true
   ·rw[if_pos hq,if_pos hq]
   ·rw[if_neg hq,if_neg hq]
    by_cases e:k=p
    ·subst e;exact absurd hk hq
    ·rw[if_neg e]
  ·rw[if_pos (by simpa using hk),Xas,Vu,ih,Vu]
   by_cases e:k=p
   ·subst e
    rw[if_pos rfl,if_neg hk,if_pos rfl]
    rfl
   ·rw[if_neg e,if_neg e]
theorem LoS.ok{X:Cx}{nt:Nat}{o:Oper}{lo:Lo}{fre:Nat->Bool}{ob':List (Nat×AO)}(h:LoS X.P X.tt nt o lo fre ob')(hfre:∀n,n∈lo.kl\/n∈lo.fr->X.fre n=true):LoOk X nt o lo:=by
 intro s a w ⟨σ,hnt,hfs,en,h1⟩ hp next Q hn
 have bm:∀y∈lo.rs,look σ.sl y.1=y.2:=fun y c=>by have:=Jq.1 hp.rs y c;rw[<-hfs]at this;exact this
 have ay:∀y∈lo.ro,Ql σ.ob y.1=some y.2:=fun y c=>by have:=Jq.1 hp.ro y c;rw[<-hfs]at this;exact this
 have bt:∀p∈lo.fr,Ql σ.ob p=none:=fun y c=>by have:=Jq.1 hp.fr y c;rw[<-hfs]at this;exact this
 have m:=h1.mem
 have a6:=h.closed
 have bj:=a6
 simp only[AS.closed,Xac,XaD]at a6
 obtain⟨⟨c1,c2⟩,c3⟩:=a6
 have bw:∀l:List (Nat×AV),(∀y∈l,look σ.sl y.1=y.2)->slLe σ l:=fun l=>by
  induction l with
  | nil=>intro _;trivial
  | cons y l ih=>intro c;exact⟨c y Xaa,ih fun z i=>c z (Xad _ i)⟩
 have bv:∀l:List (Nat×AO),(∀y∈l,Ql σ.ob y.1=some y.2)->obLe σ l:=fun l=>by
  induction l with
  | nil=>intro _;trivial
  | cons y l ih=>intro c;exact⟨c y Xaa,ih fun z i=>c z (Xad _ i)⟩
 have ag:=h1.le (τ:=⟨nt,lo.rs,lo.ro⟩) ⟨hnt.symm,bw _ bm,bv _ ay,bj⟩
 generalize hS:(en.filter fun y=>hasN y.nm lo.ro).map (Ent.cut fun n=>hasN n lo.ro)=enS at ag
 have ap:∀{y:Ent},y∈enS->∃z∈en,hasN z.nm lo.ro=true/\y=z.cut fun n=>hasN n lo.ro:=by
  intro y c
  rw[<-hS]at c
  simp only[Xaf,XaB]at c
  obtain⟨z,⟨k1,k2⟩,rfl⟩:=c
  exact⟨z,k1,k2,rfl⟩
 have aq:∀{z:Ent},z∈en->hasN z.nm lo.ro=true->(z.cut fun n=>hasN n lo.ro)∈enS:=by
  intro z i j
  rw[<-hS]
  simp only[Xaf,XaB]
  exact⟨z,⟨i,j⟩,rfl⟩
 have br:∀{x:Ent},x∈en->hasN x.nm lo.ro=true->(x.nm,x.ao)∈lo.ro:=by
  intro x r hn
  obtain⟨y,c,e⟩:=Ji.1 hn
  obtain⟨z,i,e1,e2⟩:=h1.ent (ay y c)
  have:=m.ent_unique r i (e.symm.trans e1.symm)
  subst this
  rw[<-e,e2]
  exact c
 let O':Nat->Prop:=fun b=>∃x∈en,hasN x.nm lo.ro=true/\x.hd b
 let Z':ZV fre:=⟨IM X en w,fun n v=>fre n=false->∀x∈en,x.nm=n->x.val=v,fun n v e e'=>by rw[e]at e';cases e'⟩
 have bc:∀b,IM X en w b->Imm w Z' O' enS w b:=fun b hb=>⟨.inl hb,hb.2.1,fun y c=>by
  obtain⟨z,i,_,rfl⟩:=ap c
  exact fun hq=>hb.2.2 z i ((Ent.hd_cut _ z b).1 hq)⟩
 have a7:∀(x:AV) (u:Value),x.okp (fun n=>hasN n lo.ro)=true->x.shows w en (IM X en w) u->x.shows w enS (Imm w Z' O' enS w) u:=fun x u r hs=>by
  have:=AV.shows_cut (p:=fun n=>hasN n lo.ro) (en':=enS) (I':=Imm w Z' O' enS w) (Xaj _) (fun _ _=>rfl) bc (fun x r hpx=>⟨_,aq r hpx,rfl,rfl,AO.cut_isRow _ x.ao,AO.cut_lens _ x.ao⟩) x u hs
  rwa [AV.cut_ok x r]at this
 have bh:J2 ⟨X.P,w,fre,Z',O',X.tt⟩ ⟨nt,lo.rs,lo.ro⟩ a w enS:=by
  refine⟨⟨rfl,rfl,rfl,Xaj _,fun _ _ _=>rfl,ag.mem.names,ag.mem.blks,fun y c=>?_,ag.mem.apart,fun y c=>?_⟩,ag.ob,ag.defers,ag.size,fun t=>?_⟩
  ·obtain⟨z,i,j,rfl⟩:=ap c
   have k:=(m.ok z i).mono (p:=fun n=>hasN n lo.ro) (w':=w) (en':=enS) (I':=Imm w Z' O' enS w) (Fr':=Frs X.w0 X.O) (Xaj _) (fun _ _=>rfl) bc (fun _ hb=>hb) (fun _ _=>rfl) (fun x r hpx=>⟨_,aq r hpx,rfl,rfl,AO.cut_isRow _ x.ao,AO.cut_lens _ x.ao⟩)
   have hO:∀b,blk z.val=some b->Frs w O' b:=fun b hb=>.inl ⟨z,i,j,.inl hb⟩
   unfold EntOk at k ⊢
   split at k
   ·rename_i e es dp bi
    obtain⟨q,us,k0,k1,k2,k3,k4,k5,k6,k7⟩:=k
    refine⟨q,us,k0,k1,k2,k3,k4,k5,hO,fun hd=>?_⟩
    have az:z.ao.deep=true:=by
     rw[<-AO.cut_deep (fun n=>hasN n lo.ro)]
     show(z.cut _).ao.deep=true
     rw[bi];exact hd
    exact⟨(k7 hd).1,fun b hb=>⟨.inl ⟨z,i,j,.inr ⟨az,hb⟩⟩,((k7 hd).2.1 b hb).2⟩,(k7 hd).2.2⟩
   ·rename_i e cs bi
    obtain⟨k0,g,bp,k1,k2,k3,k4⟩:=k
    exact⟨k0,g,bp,k1,hO g (by rw[show z.val=_ from k1];rfl),k3,k4⟩
  ·obtain⟨z,i,j,rfl⟩:=ap c
   exact fun _ x r e=>by rw[m.ent_unique r i e];rfl
  ·rcases Qhf (l:=lo.rs) (t:=t)with f|f
   ·rw[f];trivial
   ·have h4:=h1.slots t
    rw[show look σ.sl t=look lo.rs t from bm _ f]at h4
    exact a7 _ _ (c1 _ f) h4
 have hw:=h.op w Z' O' a w ⟨enS,bh⟩ (fun a' w'=>∃σ',(σ'.nt=nt/\(∀d,lo.d=some d->look σ'.sl d=lo.v)/\σ'.ob=ob')/\Rel ⟨X.P,w,fre,Z',O',X.tt⟩ σ' a' w') Q (fun σ' a' w' hk hr=>⟨σ',hk,hr⟩)
 have bx:=QxS (fun a' w' ⟨σ',_,en',hr⟩=>hr.defers) hw
 refine Oper.wp_mono (fun a' w' ⟨⟨σ',⟨hnt',hv',hob'⟩,en',h2⟩,u,hu⟩=>hn a' w' ?_) bx
 have m2:=h2.mem
 have be:∀b,IM X en w b->¬O' b:=fun b hb ⟨x,r,_,hbx⟩=>hb.2.2 x r hbx
 have am:∀b,IM X en w b->Same w w' b:=fun b hb=>m2.old b hb.2.1 (be b hb)
 have ae:∀y∈en',∀b,y.hd b->O' b\/w.heap.size<=b:=fun y c b hb=>((m2.ok y c).lth hb).2
 have a5:∀b,O' b->Frs X.w0 X.O b/\b<w.heap.size:=fun b ⟨x,r,_,hb⟩=>⟨((m.ok x r).lth hb).2,((m.ok x r).lth hb).1⟩
 let kp:=Yv lo.kl
 let enZ:=en'++(en.filter fun y=>!hasN y.nm lo.ro).map (Ent.cut kp)
 have af:∀{y:Ent},y∈(en.filter fun y=>!hasN y.nm lo.ro).map (Ent.cut kp)->∃z∈en,hasN z.nm lo.ro=false/\y=z.cut kp:=by
  intro y c
  simp only[Xaf,XaB,Xa6]at c
  obtain⟨z,⟨k1,k2⟩,rfl⟩:=c
  exact⟨z,k1,k2,rfl⟩
 have bk:∀{z:Ent},z∈en->hasN z.nm lo.ro=false->z.cut kp∈enZ:=by
  intro z i j
  refine Xav _ ?_
  simp only[Xaf,XaB,Xa6]
  exact⟨z,⟨i,j⟩,rfl⟩
 -- the frame's blocks are not the operation's
 have av:∀z∈en,hasN z.nm lo.ro=false->∀b,z.hd b->¬O' b:=fun z i j b hb ⟨x,r,ar,hbx⟩=>m.hd_ne i r (fun e=>by rw[e,ar]at j;cases j) hb hbx
 have bd:∀b,IM X en w b->IM X enZ w' b:=fun b hb=>⟨hb.1,XaO hb.2.1 m2.size,fun y c e=>by
  rcases Xag.1 c with c|c
  ·rcases ae y c b e with f|f
   ·exact be b hb f
   ·have:=hb.2.1;omega
  ·obtain⟨z,i,_,rfl⟩:=af c
   exact hb.2.2 z i ((Ent.hd_cut kp z b).1 e)⟩
 have a2:∀b,Imm w Z' O' en' w' b->IM X enZ w' b:=fun b hb=>by
  refine⟨?_,hb.2.1,fun y c e=>?_⟩
  ·rcases hb.1 with f|f|f
   ·exact f.1
   ·exact .inr (a5 b f).1
   ·exact .inr (.inr (Xam m.size f))
  ·rcases Xag.1 c with c|c
   ·exact hb.2.2 y c e
   ·obtain⟨z,i,j,rfl⟩:=af c
    have e:=(Ent.hd_cut kp z b).1 e
    rcases hb.1 with f|f|f
    ·exact f.2.2 z i e
    ·exact av z i j b e f
    ·have:=((m.ok z i).lth (b:=b) e).1;omega
 have bl:∀{n:Nat} {ao:AO},(n,ao)∈ob'->∃y∈en',y.nm=n/\y.ao=ao:=by
  intro n ao aw
  rw[<-hob']at aw
  have:=h2.ob.mem_iff.2 aw
  rw[Xaf]at this
  obtain⟨y,c,e⟩:=this
  injection e with e1 e2
  exact⟨y,c,e1,e2⟩
 have al:∀x∈en,kp x.nm=true->∃y∈enZ,Like x y:=fun x r hk=>by
  have ax:x.nm∉lo.kl:=QiK.1 hk
  cases ar:hasN x.nm lo.ro with
  | false=>exact⟨_,bk r ar,rfl,rfl,AO.cut_isRow kp x.ao,AO.cut_lens kp x.ao⟩
  | true=>
   have aw:=br r ar
   obtain⟨bo,k1,k2⟩:=h.keep _ _ aw ax
   obtain⟨y,c,e1,e2⟩:=bl k1
   have a8:fre x.nm=false:=by
    cases hf:fre x.nm with
    | false=>rfl
    | true=>exact absurd (h.fre _ ar hf) ax
   have aa:x.val=y.val:=m2.fix y c (by rw[e1];exact a8) x r e1.symm
   refine⟨y,Xat _ c,e1,aa.symm,?_,?_⟩
   ·rcases k2 with ⟨k2,k3⟩|⟨e,es,es',dp,dp',k2,k3⟩
    ·rw[k2,e2,k3]
    ·rw[e2,k2,k3];rfl
   ·rcases k2 with ⟨k2,k3⟩|⟨e,es,es',dp,dp',k2,k3⟩
    ·cases hq:x.ao with
     | row=>rw[hq]at k2;cases k2
     | box=>
      rw[e2]
      cases bo with
      | row=>cases k3
      | box=>rfl
    ·obtain⟨z1,n1,i1,i2,A1,C1,i3⟩:=QmD (m.ok x r) k2
     obtain⟨z2,n2,j1,j2,A2,C2,j3⟩:=QmD (m2.ok y c) (e2.trans k3)
     rw[i1]at j1
     injection j1 with j1
     rw[i3,j3]at aa
     injection aa with _ aa _
     rw[i2,j2,j1,aa]
 have bf:∀(x:AV) (q:Value),x.shows w en (IM X en w) q->(x.cut kp).shows w' enZ (IM X enZ w') q:=fun x q hq=>
  AV.shows_cut m2.size am bd al x q hq
 have a4:∀(x:AV) (q:Value),x.shows w' en' (Imm w Z' O' en' w') q->x.shows w' enZ (IM X enZ w') q:=fun x q hq=>
  AV.shows_mono (Xaj _) (fun _ _=>rfl) a2 (fun x r=>⟨x,Xat _ r,rfl,rfl,rfl,rfl⟩) hq
 have a3:∀y∈en',hasN y.nm lo.ro=true\/y.nm∈lo.fr:=fun y c=>h.made y.nm y.ao (by
  rw[<-hob']
  exact h2.ob.mem_iff.1 (Xaf.2 ⟨y,c,rfl⟩))
 have a9:Mem X.P X.w0 X.Z X.O enZ w':=by
  refine⟨m2.os.trans m.os,m2.tape.trans m.tape,m2.output.trans m.output,Xam m.size m2.size,fun b hb hO=>?_,?_,?_,?_,?_,?_⟩
  ·refine(m2.old b (XaO hb m.size) (fun hO'=>?_)).trans (m.old b hb hO)
   rcases(a5 b hO').1 with f|f
   ·exact hO f
   ·omega
  ·rw[XaG,Xbg]
   refine⟨m2.names,?_,fun n hn1 n' hn2 e=>?_⟩
   ·have:((en.filter fun y=>!hasN y.nm lo.ro).map (Ent.cut kp)).map Ent.nm=(en.filter fun y=>!hasN y.nm lo.ro).map Ent.nm:=by simp only[XaR];rfl
    rw[this]
    exact Xbw (XbI _ XaC) m.names
   ·subst e
    obtain⟨y,c,e1⟩:=Xaf.1 hn1
    obtain⟨q,hq,e2⟩:=Xaf.1 hn2
    obtain⟨z,i,j,rfl⟩:=af hq
    have e3:z.nm=y.nm:=e2.trans e1.symm
    rcases a3 y c with f|f
    ·rw[<-e3,j]at f;cases f
    ·have h4:=bt _ f
     have h5:hasN y.nm σ.ob=true:=Ji.2 ⟨z.key,h1.ob.mem_iff.1 (Xaf.2 ⟨z,i,rfl⟩),e3⟩
     rw[<-Wn,h4]at h5
     cases h5
  ·rw[Xbk]
   refine⟨m2.blks,XaX _ (fun x y hxy b h1 h2=>hxy b ((Ent.hd_cut kp x b).1 h1) ((Ent.hd_cut kp y b).1 h2)) (Xa1 XaC m.blks),fun y c q hq b hb aj=>?_⟩
   obtain⟨z,i,j,rfl⟩:=af hq
   have aj:=(Ent.hd_cut kp z b).1 aj
   rcases ae y c b hb with f|f
   ·exact av z i j b aj f
   ·have:=((m.ok z i).lth (b:=b) aj).1;omega
  ·intro y c
   rcases Xag.1 c with c|c
   ·have k:=(m2.ok y c).mono (p:=fun _=>true) (w':=w') (en':=enZ) (I':=IM X enZ w') (Fr':=Frs X.w0 X.O) (Xaj _) (fun _ _=>rfl) a2
     (fun b hb=>hb.elim (fun f=>(a5 b f).1) (fun f=>.inr (Xam m.size f))) (fun _ _=>rfl) (fun x r _=>⟨x,Xat _ r,rfl,rfl,rfl,rfl⟩)
    have e:y.cut (fun _=>true)=y:=by cases y;simp[Ent.cut,AO.cut_true]
    rwa [e]at k
   ·obtain⟨z,i,j,rfl⟩:=af c
    exact(m.ok z i).mono m2.size am bd (fun _ hb=>hb) (fun b hb=>m2.old b ((m.ok z i).lth hb).1 (av z i j b hb)) al
  ·rw[Xbk]
   refine⟨m2.apart,XaX _ (fun x y hxy f h4=>hxy (by rw[<-AO.cut_deep kp];exact f) (by rw[<-AO.cut_deep kp];exact h4)) (Xa1 XaC m.apart),fun y c q hq hdy hdq b hb aj=>?_⟩
   obtain⟨z,i,j,rfl⟩:=af hq
   have az:z.hd b:=.inr ⟨by rw[<-AO.cut_deep kp];exact hdq,aj⟩
   rcases ae y c b (.inr ⟨hdy,hb⟩)with f|f
   ·exact av z i j b az f
   ·have:=((m.ok z i).lth az).1;omega
  ·intro y c
   rcases Xag.1 c with c|c
   ·by_cases ba:X.fre y.nm=true
    ·exact X.Z.lo _ _ ba
    ·rcases a3 y c with f|f
     ·obtain⟨q,hq,e⟩:=Ji.1 f
      obtain⟨z,i,e1,e2⟩:=h1.ent (ay q hq)
      have ax:y.nm∉lo.kl:=fun hk=>ba (hfre _ (.inl hk))
      have a8:fre y.nm=false:=by
       cases hf:fre y.nm with
       | false=>rfl
       | true=>exact absurd (h.fre _ f hf) ax
      have e3:z.nm=y.nm:=e1.trans e
      have aa:=m2.fix y c a8 z i e3
      rw[<-aa,<-e3]
      exact m.fix z i
     ·exact absurd (hfre _ (.inr f)) ba
   ·obtain⟨z,i,_,rfl⟩:=af c
    exact m.fix z i
 refine⟨⟨nt,(match lo.d with|some d=>(d,lo.v)::cutS kp σ.sl|none=>cutS kp σ.sl),ob'++(σ.ob.filter fun y=>!hasN y.1 lo.ro).map fun y=>(y.1,y.2.cut kp)⟩,rfl,?_,enZ,a9,?_,h2.defers,?_,fun t=>?_⟩
 ·refine Fs.ext ?_ ?_
  ·funext t
   simp only[AS.fs,Lo.app]
   rw[<-hfs]
   simp only[AS.fs]
   cases hd:lo.d with
   | none=>simp only[reduceCtorEq,if_false,WV];rfl
   | some d=>
    simp only[QQ,Xak,WV]
    rfl
  ·funext p
   simp only[AS.fs,Lo.app]
   rw[<-hfs,QcL,Qac (fun n=>hasN n lo.ro) kp]
   cases hq:Ql ob' p with
   | some ao=>
    rcases Jq.1 h.spl (p,ao) (Jz hq)with f|⟨f,h4⟩
    ·simp only[f]
    ·simp only[f,AS.fs]
     cases h5:Ql lo.ro p with
     | none=>rw[h5]at h4;cases h4
     | some a0=>
      rw[h5]at h4
      have h6:Ql σ.ob p=some a0:=ay (p,a0) (Jz h5)
      rw[h6,h4]
   | none=>
    have f:hasN p ob'=false:=by rw[<-Wn,hq];rfl
    have h4:¬hasN p lo.ro=true:=fun e=>by rw[h.all p (.inl e)]at f;cases f
    have h5:Ql lo.wo p=none:=by
     cases h6:Ql lo.wo p with
     | none=>rfl
     | some a0=>
      have:hasN p lo.wo=true:=by rw[<-Wn,h6];rfl
      rw[h.all p (.inr this)]at f;cases f
    simp only[AS.fs,h5]
    rw[if_neg h4]
 ·show(enZ.map Ent.key).Perm _
  rw[XaG]
  refine XcJ (by rw[<-hob'];exact h2.ob) ?_
  have e1:((en.filter fun y=>!hasN y.nm lo.ro).map (Ent.cut kp)).map Ent.key=((en.map Ent.key).filter fun y=>!hasN y.1 lo.ro).map fun y=>(y.1,y.2.cut kp):=by
   simp only[XaR,XbQ]
   rfl
  rw[e1]
  exact(h1.ob.filter _).map _
 ·rw[h2.size,hnt']
 ·have an:∀t,(∀d,lo.d=some d->d≠t)->((look σ.sl t).cut kp).shows w' enZ (IM X enZ w') (a'.tmps.getD t undef):=fun t ht=>by
   have e:a'.tmps.getD t undef=a.tmps.getD t undef:=by
    rw[hu,h.dst]
    cases hd:lo.d with
    | none=>rfl
    | some d=>
     simp only[Act.put,Array.getD_eq_getD_getElem?,Array.getElem?_setIfInBounds_ne (ht d hd)]
   rw[e]
   exact bf _ _ (h1.slots t)
  cases hd:lo.d with
  | none=>
   simp only[WV]
   exact an t (fun d e=>by rw[hd]at e;cases e)
  | some d=>
   simp only[QQ,WV]
   split
   ·rename_i e
    subst e
    have:=h2.slots d
    rw[hv' d hd]at this
    exact a4 _ _ this
   ·rename_i e
    exact an t (fun d' e'=>by rw[hd]at e';injection e' with e';rw[<-e'];exact e)

mutual
def AV.full:AV->Bool
 | .any=>false
 | .agg xs=>Qj7 xs
 | .tup xs=>Qj7 xs
 | .clo _ xs=>Qj7 xs
 | _=>true
def Qj7:List AV->Bool
 | []=>true
 | x::xs=>x.full&&Qj7 xs
end
def AO.full:AO->Bool
 | .box _ cs=>Qj7 cs
 | _=>true
mutual
theorem AV.cut_full(p:Nat->Bool):∀(x:AV),(x.cut p).full=true->x.cut p=x
 | .any,_=>rfl
 | .d _,_=>rfl
 | .nil,_=>rfl
 | .pd _ _,_=>rfl
 | .row o,h=>by
  simp only[AV.cut]at h ⊢
  split
  ·rfl
  ·rename_i hp;rw[if_neg hp]at h;cases h
 | .ptr o _,h=>by
  simp only[AV.cut]at h ⊢
  split
  ·rfl
  ·rename_i hp;rw[if_neg hp]at h;cases h
 | .pr o _ _,h=>by
  simp only[AV.cut]at h ⊢
  split
  ·rfl
  ·rename_i hp;rw[if_neg hp]at h;cases h
 | .agg xs,h=>by simp only[AV.cut,Xq p xs h]
 | .tup xs,h=>by simp only[AV.cut,Xq p xs h]
 | .clo _ xs,h=>by simp only[AV.cut,Xq p xs h]
 | .sub o _ _,h=>by
  simp only[AV.cut]at h ⊢
  split
  ·rfl
  ·rename_i hp;rw[if_neg hp]at h;cases h
theorem Xq(p:Nat->Bool):∀(xs:List AV),Qj7 (cutL p xs)=true->cutL p xs=xs
 | [],_=>rfl
 | x::xs,h=>by
  simp only[cutL,Qj7,Xac]at h
  simp only[cutL,AV.cut_full p x h.1,Xq p xs h.2]
end
theorem AO.cut_full(p:Nat->Bool)(x:AO)(h:(x.cut p).full=true):x.cut p=x:=by
 cases x with
 | row=>rfl
 | box e cs=>simp only[AO.cut];rw[Xq p cs h]
mutual
theorem AV.cut_cut(p q:Nat->Bool):∀(x:AV),(x.cut p).cut q=x.cut fun n=>p n&&q n
 | .any=>rfl
 | .d _=>rfl
 | .nil=>rfl
 | .pd _ _=>rfl
 | .row o=>by simp only[AV.cut];by_cases hp:p o=true <;> by_cases hq:q o=true <;> simp[AV.cut,hp,hq]
 | .ptr o _=>by simp only[AV.cut];by_cases hp:p o=true <;> by_cases hq:q o=true <;> simp[AV.cut,hp,hq]
 | .pr o _ _=>by simp only[AV.cut];by_cases hp:p o=true <;> by_cases hq:q o=true <;> simp[AV.cut,hp,hq]
 | .agg xs=>by simp only[AV.cut,Qa6 p q xs]
 | .tup xs=>by simp only[AV.cut,Qa6 p q xs]
 | .clo _ xs=>by simp only[AV.cut,Qa6 p q xs]
 | .sub o _ _=>by simp only[AV.cut];by_cases hp:p o=true <;> by_cases hq:q o=true <;> simp[AV.cut,hp,hq]
theorem Qa6(p q:Nat->Bool):∀(xs:List AV),cutL q (cutL p xs)=cutL (fun n=>p n&&q n) xs
 | []=>rfl
 | x::xs=>by simp only[cutL,AV.cut_cut p q x,Qa6 p q xs]
end
theorem AV.cut_comm(p q:Nat->Bool)(x:AV):(x.cut p).cut q=(x.cut q).cut p:=by
 rw[AV.cut_cut,AV.cut_cut]
 congr 1
 funext n
 exact Bool.and_comm _ _
theorem AO.cut_comm(p q:Nat->Bool)(x:AO):(x.cut p).cut q=(x.cut q).cut p:=by
 cases x with
 | row=>rfl
 | box e cs=>
  simp only[AO.cut,Qa6]
  congr 2
  funext n
  exact Bool.and_comm _ _
def disj(l r:List Nat):Bool:=l.all fun a=>!r.any fun b=>Nat.beq a b
theorem W0{l r:List Nat}(h:disj l r=true){n:Nat}(h1:n∈l)(h2:n∈r):False:=by
 unfold disj at h
 rw[XaD]at h
 have:=h n h1
 rw[Xa6,XcE]at this
 exact this n h2 ((Qg _ _).2 rfl)
def nmO(l:List (Nat×AO)):List Nat:=l.map Prod.fst
def nmS(l:List (Nat×AV)):List Nat:=l.map Prod.fst
structure Ind (x y:Lo):Prop where
 s1:disj x.d.toList (nmS y.rs++y.d.toList)=true
 s2:disj y.d.toList (nmS x.rs)=true
 o1:disj (nmO x.wo) (nmO y.ro++y.fr++nmO y.wo)=true
 o2:disj (nmO y.wo) (nmO x.ro++x.fr)=true
 k1:(y.rs.all (·.2.full)&&y.ro.all (·.2.full)&&y.v.okp (Yv x.kl)&&y.wo.all (·.2.okp (Yv x.kl)))=true
 k2:(x.rs.all (·.2.okp (Yv y.kl))&&x.ro.all (·.2.okp (Yv y.kl))&&x.v.okp (Yv y.kl)&&x.wo.all (·.2.okp (Yv y.kl)))=true
def ind(x y:Lo):Bool:=disj x.d.toList (nmS y.rs++y.d.toList)&&disj y.d.toList (nmS x.rs)&&disj (nmO x.wo) (nmO y.ro++y.fr++nmO y.wo)&&disj (nmO y.wo) (nmO x.ro++x.fr)&&
 (y.rs.all (·.2.full)&&y.ro.all (·.2.full)&&y.v.okp (Yv x.kl)&&y.wo.all (·.2.okp (Yv x.kl)))&&(x.rs.all (·.2.okp (Yv y.kl))&&x.ro.all (·.2.okp (Yv y.kl))&&x.v.okp (Yv y.kl)&&x.wo.all (·.2.okp (Yv y.kl)))
theorem Qtr{x y:Lo}(h:ind x y=true):Ind x y:=by
 unfold ind at h
 rw[Xac,Xac,Xac,Xac,Xac]at h
 exact⟨h.1.1.1.1.1,h.1.1.1.1.2,h.1.1.1.2,h.1.1.2,h.1.2,h.2⟩
theorem ZJ{l:List (Nat×AO)}{p:Nat}(h:p∉nmO l):Ql l p=none:=by
 cases a:Ql l p with
 | none=>rfl
 | some x=>exact absurd (Xaf.2 ⟨_,Jz a,rfl⟩) h
theorem Ind.commute{x y:Lo}{s:Fs}(h:Ind x y)(hx:x.Pre s)(hy:y.Pre (x.app s)):y.Pre s/\x.Pre (y.app s)/\y.app (x.app s)=x.app (y.app s):=by
 have k1:=h.k1
 have k2:=h.k2
 simp only[Xac,XaD]at k1 k2
 have q:=Jq.1 hx.rs
 have m:=Jq.1 hx.ro
 have k:=Jq.1 hx.fr
 have v:=Jq.1 hy.rs
 have u:=Jq.1 hy.ro
 have r:=Jq.1 hy.fr
 refine⟨⟨Jq.2 fun z hz=>?_,Jq.2 fun z hz=>?_,Jq.2 fun p hp=>?_⟩,⟨Jq.2 fun z hz=>?_,Jq.2 fun z hz=>?_,Jq.2 fun p hp=>?_⟩,?_⟩
 ·have b:=v z hz
  simp only[Lo.app]at b
  rw[if_neg (fun e=>W0 h.s1 (n:=z.1) (by rw[e];simp) (Xat _ (Xaf.2 ⟨z,hz,rfl⟩)))]at b
  have c:=k1.1.1.1 z hz
  rw[<-b]at c
  rw[<-b,AV.cut_full _ _ c]
 ·have b:=u z hz
  simp only[Lo.app]at b
  rw[ZJ (fun e=>W0 h.o1 e (Xat _ (Xat _ (Xaf.2 ⟨z,hz,rfl⟩))))]at b
  simp only at b
  cases w:s.g z.1 with
  | none=>rw[w]at b;cases b
  | some a=>
   rw[w]at b
   simp only[XaW,Xak]at b
   have c:=k1.1.1.2 z hz
   rw[<-b]at c
   rw[<-b,AO.cut_full _ _ c]
 ·have b:=r p hp
  simp only[Lo.app]at b
  rw[ZJ (fun e=>W0 h.o1 e (Xat _ (Xav _ hp)))]at b
  simpa using b
 ·simp only[Lo.app]
  rw[if_neg (fun e=>W0 h.s2 (n:=z.1) (by rw[e];simp) (Xaf.2 ⟨z,hz,rfl⟩)),q z hz]
  exact AV.cut_ok _ (k2.1.1.1 z hz)
 ·simp only[Lo.app]
  rw[ZJ (fun e=>W0 h.o2 e (Xat _ (Xaf.2 ⟨z,hz,rfl⟩)))]
  simp only
  rw[m z hz,XaW,AO.cut_ok _ (k2.1.1.2 z hz)]
 ·simp only[Lo.app]
  rw[ZJ (fun e=>W0 h.o2 e (Xav _ hp))]
  simp only
  rw[k p hp]
  rfl
 ·refine Fs.ext ?_ ?_
  ·funext t
   simp only[Lo.app]
   by_cases j:x.d=some t
   ·have f:¬y.d=some t:=fun e=>W0 h.s1 (n:=t) (by rw[j];simp) (Xav _ (by rw[e];simp))
    rw[if_neg f,if_pos j,if_pos j]
    exact AV.cut_ok _ k2.1.2
   ·rw[if_neg j,if_neg j]
    by_cases f:y.d=some t
    ·rw[if_pos f,if_pos f]
     exact(AV.cut_ok _ k1.1.2).symm
    ·rw[if_neg f,if_neg f]
     exact AV.cut_comm _ _ _
  ·funext p
   simp only[Lo.app]
   cases b:Ql x.wo p with
   | some a=>
    have c:Ql y.wo p=none:=ZJ fun e=>W0 h.o1 (Xaf.2 ⟨_,Jz b,rfl⟩) (Xav _ e)
    rw[c]
    simp only[XaW]
    rw[AO.cut_ok _ (k2.2 _ (Jz b))]
   | none=>
    cases c:Ql y.wo p with
    | some a=>
     simp only[XaW]
     rw[AO.cut_ok _ (k1.2 _ (Jz c))]
    | none=>
     simp only[Option.map_map]
     congr 1
     funext z
     exact AO.cut_comm _ _ _

structure St where
 i:Nat
 pr:List Nat
 o:Oper
 lo:Lo
def Chain(X:Cx)(nt:Nat)(ops:Array Oper)(N:Fs->Prop):List St->Fs->Prop
 | [],s=>N s
 | e::l,s=>LoG X nt ops e.o e.lo/\e.lo.Pre s/\Chain X nt ops N l (e.lo.app s)
section
variable {X:Cx} {nt:Nat} {N:Fs->Prop}
theorem Chain.pull{ops:Array Oper}{e:St}{l2:List St}:∀{l1:List St} {s:Fs},(∀x∈l1,Ind x.lo e.lo)->Chain X nt ops N (l1++e::l2) s->LoG X nt ops e.o e.lo/\e.lo.Pre s/\Chain X nt ops N (l1++l2) (e.lo.app s)
 | [],_,_,h=>h
 | x::l1,s,hi,h=>by
  obtain⟨h1,h2,h3⟩:=h
  obtain⟨g1,g2,g3⟩:=Chain.pull (fun y hy=>hi y (Xad _ hy)) h3
  obtain⟨c1,c2,c3⟩:=(hi x Xaa).commute h2 g2
  exact⟨g1,c1,h1,c2,by rw[<-c3];exact g3⟩
def dep(o:Oper)(j:Nat):Bool:=o.after.toList.any fun e=>Region.binds .any e&&Nat.beq e.on j
structure ChL (ops:Array Oper) (L:List St):Prop where
 ops:∀e∈L,ops[e.i]?=some e.o/\∀d∈e.o.after,Region.binds .any d=true->d.on<e.i
 pair:L.Pairwise fun x y=>x.i<y.i/\(x.i∈y.pr\/Ind x.lo y.lo)
def Far(F:List St):Prop:=∀e∈F,∀j∈e.pr,dep e.o j=true\/∃f∈F,dep e.o f.i=true/\j∈f.pr
theorem QjR{ops:Array Oper}{Q:Exit->Act->World->Prop}{F:List St}(hFar:Far F)(hone:∀f∈F,∀e∈F,f.i=e.i->f.pr=e.pr)(hQ:∀s a w,N s->RelF X nt s a w->Q .normal a w):∀(fuel:Nat) (listed:Array Bool) (L:List St) (s:Fs) (a:Act) (w:World),
  RelF X nt s a w->Chain X nt ops N L s->ChL ops L->(∀e∈L,e∈F)->(∀e∈F,listed.getD e.i false=true->∀j∈e.pr,listed.getD j false=true)->(∀i,i<ops.size->(listed.getD i true=false↔∃e∈L,e.i=i))->listed.size=ops.size->L.length<=fuel->wpAny X.P .any ops Q fuel listed a w:=by
 have c:∀{listed:Array Bool} {L:List St} {i:Nat},(∀i,i<ops.size->(listed.getD i true=false↔∃e∈L,e.i=i))->ChL ops L->i∈Region.ready .any ops listed->
   ∃e∈L,e.i=i/\∀d∈e.o.after,Region.binds .any d=true->listed.getD d.on false=true:=by
  intro listed L i r u hi
  unfold Region.ready at hi
  rw[XaB,XbZ]at hi
  obtain⟨b,p⟩:=hi
  simp only[Xac,Xa6]at p
  obtain⟨e,v,h⟩:=(r i b).1 p.1
  refine⟨e,v,h,fun d hd hb=>?_⟩
  have q:=p.2
  rw[<-h,(u.ops e v).1]at q
  simp only[XaW,XaJ,Xcl]at q
  have:=q d hd
  rw[hb]at this
  simpa using this
 have t:∀{listed:Array Bool} {e:St} {L:List St},(∀i,i<ops.size->(listed.getD i true=false↔∃e'∈e::L,e'.i=i))->listed.size=ops.size->ChL ops (e::L)->Region.ready .any ops listed≠[]:=by
  intro listed e L r n u hn
  have b:=(u.ops e Xaa).1
  have ah:e.i<ops.size:=(Array.getElem?_eq_some_iff.1 b).1
  have p:e.i∈Region.ready .any ops listed:=by
   unfold Region.ready
   rw[XaB,XbZ]
   refine⟨ah,?_⟩
   rw[(r e.i ah).2 ⟨e,Xaa,rfl⟩,b]
   simp only[Bool.not_false,XaW,XaJ,XbD,Xcl]
   intro d hd
   cases hb:Region.binds .any d with
   | false=>rfl
   | true=>
    have z:=(u.ops e Xaa).2 d hd hb
    have ak:d.on<ops.size:=Nat.lt_trans z ah
    have q:listed.getD d.on true≠false:=fun e'=>by
     obtain⟨e2,ae,e3⟩:=(r d.on ak).1 e'
     rcases Xai.1 ae with rfl|ae
     ·omega
     ·have:=(Xau.1 u.pair).1 e2 ae
      omega
    have h4:listed.getD d.on false=true:=by
     have m:d.on<listed.size:=by omega
     simp only[Array.getD_eq_getD_getElem?,Array.getElem?_eq_getElem m,XaJ]at q ⊢
     simpa using q
    rw[h4,Bool.or_true]
  rw[hn]at p
  cases p
 intro fuel
 induction fuel with
 | zero=>
  intro listed L s a w hr u g _ _ r n aa
  have:L=[]:=Xaz (by omega)
  subst this
  refine⟨?_,hQ s a w u hr⟩
  cases aw:Region.ready .any ops listed with
  | nil=>rfl
  | cons i is=>
   obtain⟨e,v,_⟩:=c r g (i:=i) (by rw[aw];exact Xaa)
   cases v
 | succ fuel ih=>
  intro listed L s a w hr u g ac l r n aa
  refine⟨fun hn=>?_,fun i hi=>?_⟩
  ·cases L with
   | nil=>exact hQ s a w u hr
   | cons e L=>exact absurd hn (t r n g)
  ·obtain⟨e,v,h,ad⟩:=c r g hi
   obtain⟨l1,l2,rfl⟩:=List.append_of_mem v
   have hp:=g.pair
   rw[Xbk]at hp
   obtain⟨p1,p2,p3⟩:=hp
   have ab:∀x∈l1,x.i<e.i:=fun x hx=>(p3 x hx e Xaa).1
   have aq:∀x∈l2,e.i<x.i:=fun x hx=>((Xau.1 p2).1 x hx).1
   have af:i<ops.size:=by rw[<-h];exact(Array.getElem?_eq_some_iff.1 (g.ops e v).1).1
   have z:∀j,dep e.o j=true->listed.getD j false=true:=fun j b=>by
    unfold dep at b
    rw[XaV]at b
    obtain⟨d,hd,p⟩:=b
    rw[Xac]at p
    have q:=ad d (Array.mem_toList_iff.1 hd) p.1
    rwa [(Qg _ _).1 p.2]at q
   have ar:∀j∈e.pr,listed.getD j false=true:=fun j hj=>by
    rcases hFar e (ac e v) j hj with b|⟨f,hf,b,p⟩
    ·exact z j b
    ·exact l f hf (z _ b) j p
   have ao:∀x∈l1,Ind x.lo e.lo:=fun x hx=>by
    rcases(p3 x hx e Xaa).2 with b|b
    ·exfalso
     have q:=ar x.i b
     have ax:x.i<ops.size:=Nat.lt_trans (ab x hx) (by rw[h];exact af)
     have h4:=(r x.i ax).2 ⟨x,Xat _ hx,rfl⟩
     have m:x.i<listed.size:=by omega
     simp only[Array.getD_eq_getD_getElem?,Array.getElem?_eq_getElem m,XaJ]at q h4
     rw[q]at h4;cases h4
    ·exact b
   obtain⟨g1,g2,g3⟩:=Chain.pull ao u
   unfold wpOp
   rw[<-h,(g.ops e v).1]
   refine g1 s a w hr g2 _ _ fun a' w' hr'=>?_
   refine ih _ (l1++l2) (e.lo.app s) a' w' hr' g3 ⟨fun x hx=>g.ops x ?_,?_⟩ (fun x hx=>ac x ?_) (fun f hf hlf j hj=>?_) (fun j hj=>?_) (by simpa using n) (by simp at aa ⊢;omega)
   ·rcases Xag.1 hx with hx|hx
    ·exact Xat _ hx
    ·exact Xav _ (Xad _ hx)
   ·rw[Xbk]
    exact⟨p1,(Xau.1 p2).2,fun x hx y hy=>p3 x hx y (Xad _ hy)⟩
   ·rcases Xag.1 hx with hx|hx
    ·exact Xat _ hx
    ·exact Xav _ (Xad _ hx)
   ·have up:∀k,listed.getD k false=true->(listed.setIfInBounds e.i true).getD k false=true:=fun k hk=>by
     by_cases am:e.i=k
     ·subst am
      have m:e.i<listed.size:=by rw[n,h];exact af
      simp[Array.getD_eq_getD_getElem?,m]
     ·simp only[Array.getD_eq_getD_getElem?,Array.getElem?_setIfInBounds_ne am]
      rw[<-Array.getD_eq_getD_getElem?]
      exact hk
    by_cases al:e.i=f.i
    ·have au:f.pr=e.pr\/listed.getD f.i false=true:=by
      by_cases ap:listed.getD f.i false=true
      ·exact .inr ap
      ·refine .inl ?_
       exact(hone f hf e (ac e v) al.symm)
     rcases au with b|b
     ·rw[b]at hj;exact up j (ar j hj)
     ·exact up j (l f hf b j hj)
    ·have b:listed.getD f.i false=true:=by
      simp only[Array.getD_eq_getD_getElem?,Array.getElem?_setIfInBounds_ne al]at hlf
      rw[<-Array.getD_eq_getD_getElem?]at hlf
      exact hlf
     exact up j (l f hf b j hj)
   ·have m:e.i<listed.size:=by rw[n,h];exact af
    by_cases ag:e.i=j
    ·subst ag
     refine⟨fun hh=>?_,fun⟨x,hx,hxi⟩=>?_⟩
     ·simp[Array.getD_eq_getD_getElem?,m]at hh
     ·rcases Xag.1 hx with hx|hx
      ·have:=ab x hx;omega
      ·have:=aq x hx;omega
    ·have e1:(listed.setIfInBounds e.i true).getD j true=listed.getD j true:=by
      simp only[Array.getD_eq_getD_getElem?,Array.getElem?_setIfInBounds_ne ag]
     rw[e1,r j hj]
     refine⟨fun⟨x,hx,hxi⟩=>⟨x,?_,hxi⟩,fun⟨x,hx,hxi⟩=>⟨x,?_,hxi⟩⟩
     ·rcases Xag.1 hx with hx|hx
      ·exact Xat _ hx
      ·rcases Xai.1 hx with rfl|hx
       ·exact absurd hxi ag
       ·exact Xav _ hx
     ·rcases Xag.1 hx with hx|hx
      ·exact Xat _ hx
      ·exact Xav _ (Xad _ hx)
end

theorem nlit(n:Nat):(@OfNat.ofNat Int n instOfNat:Int)=((@OfNat.ofNat Nat n (instOfNatNat n):Nat):Int):=rfl

def QvX:Op->List Operand
 | .move x|.assign x|.box _ x|.load _ x|.nilCheck x|.unOp _ _ x|.convert _ _ x|.fieldAddr _ x _|.field _ x _|.extract x _=>[x]
 | .pick c x y=>[c,x,y]
 | .build _ ps|.buildSlice _ _ ps=>ps.toList.map (·.2)
 | .store _ x y|.binOp _ _ x y _|.makeSlice _ x y|.indexAddr _ x y|.index _ x y=>[x,y]
 | .slice _ x l h _=>x::(l.toList++h.toList)
 | .call c=>match c.callee with
  | .value x=>x::c.args.toList
  | _=>c.args.toList
 | _=>[]
def Qkw:List Operand->List Nat
 | []=>[]
 | .tmp t::l=>t::Qkw l
 | _::l=>Qkw l
def Qan{α:Type}(v:AV)(k:AV->Option α):Option α:=
 match v with
 | .any=>k .any
 | .d x=>(match x with
  | .n a b=>k (.d (.n a b))
  | .b a=>k (.d (.b a))
  | .s a=>k (.d (.s a))
  | .sl a=>k (.d (.sl a))
  | .un=>k (.d .un))
 | .nil=>k .nil
 | .row o=>k (.row o)
 | .ptr o i=>k (.ptr o i)
 | .pr o i j=>k (.pr o i j)
 | .pd e i=>k (.pd e i)
 | .agg xs=>V2 xs fun ys=>k (.agg ys)
 | .tup xs=>V2 xs fun ys=>k (.tup ys)
 | .clo g xs=>V2 xs fun ys=>k (.clo g ys)
 | .sub o i j=>k (.sub o i j)
theorem QbD{α:Type}(v:AV)(k:AV->Option α):Qan v k=k v:=by
 cases v with
 | d x=>cases x <;> rfl
 | agg xs=>exact YJ xs _
 | tup xs=>exact YJ xs _
 | clo g xs=>exact YJ xs _
 | _=>rfl
def QpO{α:Type}(v:AO)(k:AO->Option α):Option α:=
 match v with
 | .row e es dp=>(match dp with
  | true=>k (.row e es true)
  | false=>k (.row e es false))
 | .box e cs=>V2 cs fun ds=>k (.box e ds)
theorem Qjp{α:Type}(v:AO)(k:AO->Option α):QpO v k=k v:=by
 cases v with
 | row e es dp=>cases dp <;> rfl
 | box e cs=>exact YJ cs _
def Qr6{α:Type}(σ:AS):List Nat->List (Nat×AV)->(List (Nat×AV)->Option α)->Option α
 | [],acc,k=>k acc
 | t::l,acc,k=>Qan (look σ.sl t) fun v=>Qr6 σ l ((t,v)::acc) k
mutual
def QuN:AV->List Nat
 | .row o=>[o]
 | .ptr o _=>[o]
 | .pr o _ _=>[o]
 | .agg xs=>Qje xs
 | .tup xs=>Qje xs
 | .clo _ xs=>Qje xs
 | .sub o _ _=>[o]
 | _=>[]
def Qje:List AV->List Nat
 | []=>[]
 | x::xs=>QuN x++Qje xs
end
def QwZ:AO->List Nat
 | .box _ cs=>Qje cs
 | _=>[]
def Qnl{α:Type}(σ:AS):Nat->List Nat->List (Nat×AO)->(List (Nat×AO)->Option α)->Option α
 | 0,_,acc,k=>k acc
 | _,[],acc,k=>k acc
 | f+1,n::l,acc,k=>bif hasN n acc then Qnl σ f l acc k else(match Ql σ.ob n with
  | some ao=>QpO ao fun a=>Qnl σ f (QwZ a++l) ((n,a)::acc) k
  | none=>Qnl σ f l acc k)
def QfA:List (Nat×AV)->List Nat
 | []=>[]
 | (_,v)::l=>QuN v++QfA l
def XA(σ:AS)(o:Oper):Option (List (Nat×AV)×List (Nat×AO)):=
 Qr6 σ (Qkw (QvX o.op)) [] fun rs=>Qnl σ 64 (QfA rs) [] fun ro=>some (rs,ro)
theorem Qmx{α:Type}{σ:AS}{k:List (Nat×AV)->Option α}{r:α}:∀{l:List Nat} {acc:List (Nat×AV)},(∀y∈acc,look σ.sl y.1=y.2)->Qr6 σ l acc k=some r->∃rs,(∀y∈rs,look σ.sl y.1=y.2)/\k rs=some r
 | [],acc,ha,h=>⟨acc,ha,h⟩
 | t::l,acc,ha,h=>by
  rw[Qr6,QbD]at h
  exact Qmx (fun y hy=>by
   rcases Xai.1 hy with rfl|hy
   ·rfl
   ·exact ha y hy) h
theorem QdA{α:Type}{σ:AS}{k:List (Nat×AO)->Option α}{r:α}:∀{f:Nat} {l:List Nat} {acc:List (Nat×AO)},(∀y∈acc,Ql σ.ob y.1=some y.2)->Qnl σ f l acc k=some r->∃ro,(∀y∈ro,Ql σ.ob y.1=some y.2)/\k ro=some r
 | 0,_,acc,ha,h=>⟨acc,ha,h⟩
 | f+1,[],acc,ha,h=>⟨acc,ha,h⟩
 | f+1,n::l,acc,ha,h=>by
  rw[Qnl]at h
  cases hn:hasN n acc with
  | true=>rw[hn]at h;exact QdA ha h
  | false=>
   rw[hn,cond_false]at h
   split at h
   ·rename_i ao hao
    rw[Qjp]at h
    exact QdA (fun y hy=>by
     rcases Xai.1 hy with rfl|hy
     ·exact hao
     ·exact ha y hy) h
   ·exact QdA ha h
theorem Qnm{σ:AS}{o:Oper}{rs:List (Nat×AV)}{ro:List (Nat×AO)}(h:XA σ o=some (rs,ro)):(∀y∈rs,look σ.sl y.1=y.2)/\∀y∈ro,Ql σ.ob y.1=some y.2:=by
 unfold XA at h
 obtain⟨m,f,g⟩:=Qmx (by simp) h
 obtain⟨j,i,e⟩:=QdA (by simp) g
 injection e with e
 injection e with e1 e2
 subst e1;subst e2
 exact⟨f,i⟩
def Qyx(o:Oper)(rs:List (Nat×AV)):Option (List Nat×List Nat):=
 match o.op with
 | .store _ x _=>match x with
  | .tmp t=>match look rs t with
   | .ptr p _=>some ([p],[])
   | .pr p _ _=>some ([p],[])
   | _=>none
  | _=>none
 | .call c=>match c.callee with
  | .builtin b=>match b with
   | .append=>match c.args.toList with
    | .tmp t::_=>match look rs t with
     | .row p=>some ([p],[p])
     | _=>some ([],[])
    | _=>some ([],[])
   | _=>some ([],[])
  | _=>some ([],[])
 | _=>some ([],[])
def freS(kl:List Nat)(ro:List (Nat×AO))(n:Nat):Bool:=kl.any (fun k=>Nat.beq k n)||!hasN n ro
def dstV(o:Oper)(τ:AS):AV:=match o.dst with
 | some d=>look τ.sl d
 | none=>.nil
def obsK{α:Type}:List (Nat×AO)->(List (Nat×AO)->Option α)->Option α
 | [],k=>k []
 | (n,ao)::l,k=>QpO ao fun a=>obsK l fun l'=>k ((n,a)::l')
theorem QkZ{α:Type}:∀(l:List (Nat×AO)) (k:List (Nat×AO)->Option α),obsK l k=k l
 | [],k=>rfl
 | (n,ao)::l,k=>by rw[obsK,Qjp,QkZ]
def wofr(ro:List (Nat×AO))(ch:List Nat):List (Nat×AO)->List (Nat×AO)->List Nat->Option (List (Nat×AO)×List Nat)
 | [],w,f=>some (w,f)
 | (n,a)::l,w,f=>bif hasN n ro then(bif ch.any (fun k=>Nat.beq k n)then wofr ro ch l ((n,a)::w) f else wofr ro ch l w f)else wofr ro ch l ((n,a)::w) (n::f)
def Qgj:AO->AO->Bool
 | .row e _ _,.row e' _ _=>Nat.beq e e'
 | .box ..,.box ..=>true
 | _,_=>false
def chkW(ob':List (Nat×AO)):List (Nat×AO)->Bool
 | []=>true
 | (n,_)::l=>hasN n ob'&&chkW ob' l
def chkM(ro:List (Nat×AO))(fr:List Nat):List (Nat×AO)->Bool
 | []=>true
 | (n,_)::l=>(hasN n ro||fr.any fun k=>Nat.beq k n)&&chkM ro fr l
def QfW(_:AO):Prop:=True
def Qgy(wo ob':List (Nat×AO)):List (Nat×AO)->Bool
 | []=>true
 | (n,a)::l=>(bif hasN n wo then(match Ql ob' n with
  | some a'=>Qgj a a'
  | none=>false)else hasN n ob')&&Qgy wo ob' l
theorem Qfw{wo ob':List (Nat×AO)}:∀{l:List (Nat×AO)},Qgy wo ob' l=true->∀y∈l,(∃a',Ql ob' y.1=some a'/\Qgj y.2 a'=true)\/(hasN y.1 wo=false/\hasN y.1 ob'=true)
 | (n,a)::l,h,y,hy=>by
  simp only[Qgy,Xac]at h
  rcases Xai.1 hy with rfl|hy
  ·have h1:=h.1
   cases hw:hasN n wo with
   | true=>
    rw[hw,cond_true]at h1
    split at h1
    ·rename_i a' ha;exact .inl ⟨a',ha,h1⟩
    ·cases h1
   | false=>rw[hw,cond_false]at h1;exact .inr ⟨rfl,h1⟩
  ·exact Qfw h.2 y hy
theorem QdP{ob':List (Nat×AO)}:∀{l:List (Nat×AO)},chkW ob' l=true->∀y∈l,hasN y.1 ob'=true
 | (n,a)::l,h,y,hy=>by
  simp only[chkW,Xac]at h
  rcases Xai.1 hy with rfl|hy
  ·exact h.1
  ·exact QdP h.2 y hy
theorem QiG{ro:List (Nat×AO)}{fr:List Nat}:∀{l:List (Nat×AO)},chkM ro fr l=true->∀y∈l,hasN y.1 ro=true\/y.1∈fr
 | (n,a)::l,h,y,hy=>by
  simp only[chkM,Xac,Xcw,XaV]at h
  rcases Xai.1 hy with rfl|hy
  ·rcases h.1 with h1|⟨k,hk,h1⟩
   ·exact .inl h1
   ·exact .inr ((Qg _ _).1 h1▸hk)
  ·exact QiG h.2 y hy
theorem Qho{a a':AO}(h:Qgj a a'=true):(a.isRow=false/\a'.isRow=false)\/∃e es es' dp dp',a=.row e es dp/\a'=.row e es' dp':=by
 cases a with
 | row e es dp=>
  cases a' with
  | row e' es' dp'=>
   have:=(Qg _ _).1 h
   subst this
   exact .inr ⟨e,es,es',dp,dp',rfl,rfl⟩
  | box=>cases h
 | box e cs=>
  cases a' with
  | row=>cases h
  | box=>exact .inl ⟨rfl,rfl⟩
def cutK(kl:List Nat)(sl:List (Nat×AV)):List (Nat×AV):=match kl with
 | []=>sl
 | k::l=>cutS (Yv (k::l)) sl
def Qye(kl:List Nat)(wo:List (Nat×AO))(ob:List (Nat×AO)):List (Nat×AO):=match kl with
 | []=>ob.filter fun y=>!hasN y.1 wo
 | k::l=>(ob.filter fun y=>!hasN y.1 wo).map fun y=>(y.1,y.2.cut (Yv (k::l)))
def Qfl(σ:AS)(lo:Lo):AS:=⟨σ.nt,(match lo.d with
 | some d=>(d,lo.v)::cutK lo.kl σ.sl
 | none=>cutK lo.kl σ.sl),lo.wo++Qye lo.kl lo.wo σ.ob⟩
theorem Qqi(x:AV):x.cut (Yv [])=x:=AV.cut_true x
theorem Qs3(x:AO):x.cut (Yv [])=x:=AO.cut_true x
theorem QjD(kl:List Nat)(sl:List (Nat×AV))(t:Nat):look (cutK kl sl) t=(look sl t).cut (Yv kl):=by
 cases kl with
 | nil=>exact(Qqi _).symm
 | cons k l=>exact WV _ _ _
theorem QjQ(kl:List Nat)(wo ob:List (Nat×AO))(p:Nat)(h:Ql wo p=none):Ql (Qye kl wo ob) p=(Ql ob p).map (AO.cut (Yv kl)):=by
 have a:¬hasN p wo=true:=fun e=>by rw[<-Wn,h]at e;cases e
 cases kl with
 | nil=>
  have:=Qac (fun n=>hasN n wo) (fun _=>true) ob p
  rw[if_neg a]at this
  have e:((ob.filter fun y=>!hasN y.1 wo).map fun y=>(y.1,y.2.cut fun _=>true))=ob.filter fun y=>!hasN y.1 wo:=by
   have:(fun(y:Nat×AO)=>(y.1,y.2.cut fun _=>true))=id:=by funext y;simp[AO.cut_true]
   rw[this,XcN]
  rw[e]at this
  exact this
 | cons k l=>
  have:=Qac (fun n=>hasN n wo) (Yv (k::l)) ob p
  rw[if_neg a]at this
  exact this
theorem Qdo(σ:AS)(lo:Lo):(Qfl σ lo).fs=lo.app σ.fs:=by
 refine Fs.ext ?_ ?_
 ·funext t
  simp only[AS.fs,Qfl,Lo.app]
  cases hd:lo.d with
  | none=>simp only[reduceCtorEq,if_false];exact QjD _ _ _
  | some d=>
   simp only[QQ,Xak]
   rw[QjD]
 ·funext p
  simp only[AS.fs,Qfl,Lo.app]
  rw[QcL]
  cases b:Ql lo.wo p with
  | some a=>rfl
  | none=>exact QjQ _ _ _ _ b

def Quw{α:Type}(n:Nat)(k:Nat->Option α):Option α:=match n with
 | 0=>k 0
 | m+1=>k (m+1)
theorem QqI{α:Type}(n:Nat)(k:Nat->Option α):Quw n k=k n:=by cases n <;> rfl
def V8{α:Type}:List Nat->(List Nat->Option α)->Option α
 | [],k=>k []
 | n::l,k=>V8 l fun l'=>k (n::l')
theorem ZD{α:Type}:∀(l:List Nat) (k:List Nat->Option α),V8 l k=k l
 | [],k=>rfl
 | n::l,k=>by rw[V8,ZD]
def QjH{α:Type}:List (Nat×AV)->List Nat->(List (Nat×AV)->Option α)->Option α
 | [],_,k=>k []
 | (t,v)::l,seen,k=>bif seen.any (fun x=>Nat.beq x t)then QjH l seen k else Qan v fun v'=>QjH l (t::seen) fun l'=>k ((t,v')::l')
theorem Qeu{α:Type}{k:List (Nat×AV)->Option α}{r:α}:∀{l:List (Nat×AV)} {seen:List Nat},QjH l seen k=some r->∃l',k l'=some r/\∀t,t∉seen->look l' t=look l t
 | [],seen,h=>⟨[],h,fun _ _=>rfl⟩
 | (t,v)::l,seen,h=>by
  rw[QjH]at h
  cases hb:seen.any (fun x=>Nat.beq x t) with
  | true=>
   rw[hb,cond_true]at h
   obtain⟨l',h1,h2⟩:=Qeu h
   refine⟨l',h1,fun t' ht'=>?_⟩
   rw[h2 t' ht',QQ,if_neg]
   intro e
   subst e
   rw[XaV]at hb
   obtain⟨x,hx,e⟩:=hb
   exact ht' ((Qg _ _).1 e▸hx)
  | false=>
   rw[hb,cond_false,QbD]at h
   obtain⟨l',h1,h2⟩:=Qeu (k:=fun l'=>k ((t,v)::l')) h
   refine⟨(t,v)::l',h1,fun t' ht'=>?_⟩
   rw[QQ,QQ]
   by_cases e:t=t'
   ·rw[if_pos e,if_pos e]
   ·rw[if_neg e,if_neg e]
    refine h2 t' (fun hm=>?_)
    rcases Xai.1 hm with e'|hm
    ·exact e e'.symm
    ·exact ht' hm
def Qaf(σ:AS):Option AS:=Quw σ.nt fun n=>QjH σ.sl [] fun sl=>obsK σ.ob fun ob=>some ⟨n,sl,ob⟩
theorem Qa9{σ σ':AS}(h:Qaf σ=some σ'):σ'.nt=σ.nt/\σ'.fs=σ.fs/\σ'.ob=σ.ob:=by
 unfold Qaf at h
 rw[QqI]at h
 obtain⟨l',a,b⟩:=Qeu h
 rw[QkZ]at a
 injection a with a
 subst a
 exact⟨rfl,Fs.ext (funext fun t=>b t (by simp)) rfl,rfl⟩
theorem Rel.norm{X:Cx}{σ σ':AS}{a:Act}{w:World}(h:Qaf σ=some σ')(hr:Rel X σ a w):Rel X σ' a w:=by
 obtain⟨c,d,e⟩:=Qa9 h
 obtain⟨b,k⟩:=hr
 refine⟨b,k.mem,by rw[e];exact k.ob,k.defers,by rw[k.size,c],fun t=>?_⟩
 have:look σ'.sl t=look σ.sl t:=congrFun (congrArg Fs.f d) t
 rw[this]
 exact k.slots t
theorem Qdf{X:Cx}{c:Code}{Q:Exit->AS->Prop}{σ σ':AS}(h:Qaf σ=some σ')(hc:AWp X c Q σ'):AWp X c Q σ:=fun a w hr=>hc a w (hr.norm h)
theorem QkR{X:Cx}{id:Nat}{l:List Oper}{Q:Exit->AS->Prop}{σ σ':AS}(hn:Qaf σ=some σ')(h:QM X l.toArray l Q σ'):AWp X (.region id l.toArray false) Q σ:=Qdf hn (Qm0 h)

def Wf(o:Oper):List (Nat×List Nat×Lo)->List Nat
 | []=>[]
 | (i,p,_)::l=>bif dep o i then i::(p++Wf o l)else Wf o l
theorem Xs{o:Oper}:∀{l:List (Nat×List Nat×Lo)} {j:Nat},j∈Wf o l->dep o j=true\/∃y∈l,dep o y.1=true/\j∈y.2.1
 | (i,p,lo)::l,j,h=>by
  rw[Wf]at h
  cases hd:dep o i with
  | false=>
   rw[hd,cond_false]at h
   exact(Xs h).imp id fun⟨y,hy,h1⟩=>⟨y,Xad _ hy,h1⟩
  | true=>
   rw[hd,cond_true]at h
   rcases Xai.1 h with rfl|h
   ·exact .inl hd
   ·rcases Xag.1 h with h|h
    ·exact .inr ⟨_,Xaa,hd,h⟩
    ·exact(Xs h).imp id fun⟨y,hy,h1⟩=>⟨y,Xad _ hy,h1⟩
def ChA(X:Cx)(nt:Nat)(ops:Array Oper)(N:AS->Prop):List Oper->List (Nat×List Nat×Lo)->Nat->AS->Prop
 | [],_,_,σ=>W4 σ.ob=true/\N σ
 | o::l,acc,i,σ=>∃lo σ',(LoG X nt ops o lo/\lo.Pre σ.fs)/\((acc.all fun y=>((Wf o acc).any fun k=>Nat.beq k y.1)||ind y.2.2 lo)=true/\(o.after.toList.all fun e=>!Region.binds .any e||Nat.blt e.on i)=true)/\(σ'.nt=nt/\σ'.fs=lo.app σ.fs)/\ChA X nt ops N l ((i,Wf o acc,lo)::acc) (i+1) σ'
section
variable {X:Cx} {nt:Nat} {ops:Array Oper} {N:AS->Prop}
theorem ChA.build:∀{l:List Oper} {acc:List (Nat×List Nat×Lo)} {i:Nat} {σ:AS},σ.nt=nt->ChA X nt ops N l acc i σ->∃L:List St,Chain X nt ops (fun s=>∃σ,(W4 σ.ob=true/\N σ)/\σ.nt=nt/\σ.fs=s) L σ.fs/\L.map St.o=l/\(∀(k:Nat) (e:St),L[k]?=some e->e.i=i+k)/\
   (∀e∈L,∀d∈e.o.after,Region.binds .any d=true->d.on<e.i)/\(L.Pairwise fun x y=>x.i<y.i/\(x.i∈y.pr\/Ind x.lo y.lo))/\(∀y∈acc,∀e∈L,y.1∈e.pr\/Ind y.2.2 e.lo)/\(∀e∈L,∀j∈e.pr,dep e.o j=true\/(∃f∈L,dep e.o f.i=true/\j∈f.pr)\/∃y∈acc,dep e.o y.1=true/\j∈y.2.1)
 | [],acc,i,σ,hn,h=>⟨[],⟨σ,h,hn,rfl⟩,rfl,by simp,by simp,by simp,by simp,by simp⟩
 | o::l,acc,i,σ,hn,h=>by
  obtain⟨lo,σ',⟨h2,h3⟩,⟨h4,h5⟩,⟨h7,h8⟩,h6⟩:=h
  obtain⟨L,g1,g2,g3,g4,g5,g6,g7⟩:=ChA.build (σ:=σ') h7 h6
  rw[h8]at g1
  have hlt:∀e∈L,i<e.i:=fun e he=>by
   obtain⟨k,hk⟩:=List.getElem?_of_mem he
   rw[g3 k e hk];omega
  refine⟨⟨i,Wf o acc,o,lo⟩::L,⟨h2,h3,g1⟩,by rw[Xas,g2],fun k e he=>?_,fun e he d hd hb=>?_,?_,fun y hy e he=>?_,fun e he j hj=>?_⟩
  ·cases k with
   | zero=>simp only[List.getElem?_cons_zero,Xak]at he;subst he;rfl
   | succ k=>rw[g3 k e (by simpa using he)];omega
  ·rcases Xai.1 he with rfl|he
   ·rw[XaD]at h5
    have:=h5 d (Array.mem_toList_iff.2 hd)
    rw[hb]at this
    exact Jp this
   ·exact g4 e he d hd hb
  ·rw[Xau]
   exact⟨fun e he=>⟨hlt e he,g6 (i,Wf o acc,lo) Xaa e he⟩,g5⟩
  ·rcases Xai.1 he with rfl|he
   ·rw[XaD]at h4
    have:=h4 y hy
    rw[Xcw,XaV]at this
    refine this.imp (fun⟨k,hk,e⟩=>?_) Qtr
    exact(Qg _ _).1 e▸hk
   ·exact g6 y (Xad _ hy) e he
  ·rcases Xai.1 he with rfl|he
   ·exact(Xs hj).imp id fun h=>.inr h
   ·rcases g7 e he j hj with h|⟨f,hf,h⟩|⟨y,hy,h⟩
    ·exact .inl h
    ·exact .inr (.inl ⟨f,Xad _ hf,h⟩)
    ·rcases Xai.1 hy with rfl|hy
     ·exact .inr (.inl ⟨_,Xaa,h⟩)
     ·exact .inr (.inr ⟨y,hy,h⟩)
theorem Qii{id:Nat}{l:List Oper}{Q:Exit->AS->Prop}{σ:AS}(hm:X.P.follows .mixedOrders=true)(h:ChA X σ.nt l.toArray (Q .normal) l [] 0 σ):AWp X (.region id l.toArray true) Q σ:=fun a w hr=>by
 obtain⟨L,g1,g2,z,g4,g5,_,g7⟩:=ChA.build (nt:=σ.nt) rfl h
 have r:L.length=l.length:=by rw[<-g2,Xar]
 have ac:∀e∈L,l[e.i]?=some e.o/\e.i<l.length:=fun e he=>by
  obtain⟨k,q⟩:=List.getElem?_of_mem he
  have c:=z k e q
  rw[XaZ]at c
  have h2:(L.map St.o)[k]?=some e.o:=by rw[List.getElem?_map,q];rfl
  rw[g2]at h2
  rw[c]
  exact⟨h2,(List.getElem?_eq_some_iff.1 h2).1⟩
 have hQ:∀s a' w',(∃σ',(W4 σ'.ob=true/\Q .normal σ')/\σ'.nt=σ.nt/\σ'.fs=s)->RelF X σ.nt s a' w'->lift X Q .normal a' w':=by
  intro s a' w' ⟨σ',⟨hnd,hq⟩,hn,hf⟩ ⟨σ2,hn2,hf2,en,k1⟩
  refine⟨σ',hq,?_⟩
  have e:σ2.fs=σ'.fs:=hf2.trans hf.symm
  have e2:∀p,Ql σ2.ob p=Ql σ'.ob p:=fun p=>congrFun (congrArg Fs.g e) p
  refine⟨en,k1.mem,?_,k1.defers,by rw[k1.size,hn2,hn],fun t=>?_⟩
  ·refine k1.ob.trans ?_
   have n1:(σ2.ob.map Prod.fst).Nodup:=by
    have:=k1.mem.names
    have e:en.map Ent.nm=(en.map Ent.key).map Prod.fst:=by simp only[XaR];rfl
    rw[e]at this
    exact(k1.ob.map _).nodup_iff.1 this
   have n2:=WC hnd
   have key:∀{l:List (Nat×AO)},(l.map Prod.fst).Nodup->∀y,y∈l↔Ql l y.1=some y.2:=fun {l} hl y=>by
    refine⟨fun hy=>?_,fun hy=>Jz hy⟩
    have c:(Ql l y.1).isSome=true:=by rw[Wn];exact Ji.2 ⟨y,hy,rfl⟩
    obtain⟨x,hx⟩:=XaY.1 c
    have:=Qae hl (Jz hx) hy rfl
    rw[hx,<-this]
   refine(Xb8 (Wj n1) (Wj n2)).2 (fun y=>?_)
   rw[key n1,key n2,e2]
  ·have e1:look σ2.sl t=look σ'.sl t:=congrFun (congrArg Fs.f e) t
   rw[<-e1]
   exact k1.slots t
 have v:ChL l.toArray L:=⟨fun e he=>⟨by simpa using (ac e he).1,g4 e he⟩,g5⟩
 have hl:∀i,i<l.toArray.size->((Array.replicate l.toArray.size false).getD i true=false↔∃e∈L,e.i=i):=fun i hi=>by
  have ae:i<l.length:=by simpa using hi
  have c:(Array.replicate l.toArray.size false).getD i true=false:=by
   simp[Array.getD_eq_getD_getElem?,ae]
  rw[c]
  refine⟨fun _=>?_,fun _=>rfl⟩
  have m:i<L.length:=by omega
  refine⟨L[i],Xbm m,?_⟩
  have:=z i L[i] (List.getElem?_eq_getElem m)
  omega
 have d:Far L:=fun e he j hj=>(g7 e he j hj).imp (fun h=>h) fun h=>h.elim (fun h=>h) fun⟨y,hy,_⟩=>by cases hy
 have u:∀f∈L,∀e∈L,f.i=e.i->f.pr=e.pr:=fun f hf e he hi=>by
  obtain⟨k,q⟩:=List.getElem?_of_mem hf
  obtain⟨k',b⟩:=List.getElem?_of_mem he
  have c:=z k f q
  have h2:=z k' e b
  have:k=k':=by omega
  subst this
  rw[q]at b
  injection b with b
  rw[b]
 have ad:∀e∈L,(Array.replicate l.toArray.size false).getD e.i false=true->∀j∈e.pr,(Array.replicate l.toArray.size false).getD j false=true:=fun e _ h=>by
  exfalso
  have:∀n i,(Array.replicate n false).getD i false=false:=fun n i=>by
   rw[Array.getD_eq_getD_getElem?,Array.getElem?_replicate]
   split <;> rfl
  rw[this]at h
  cases h
 exact wp_region_any hm (QjR (X:=X) (nt:=σ.nt) d u hQ _ _ L σ.fs a _ ⟨σ,rfl,rfl,hr.ext (Ext.drew w)⟩ g1 v (fun e he=>he) ad hl (by simp) (by simp[r]))
theorem QqL{o:Oper}{σ:AS}{rs:List (Nat×AV)}{ro ob' wo:List (Nat×AO)}{ch kl fr:List Nat}{v:AV}(hn:σ.nt=nt)(hsm:XA σ o=some (rs,ro))
  (hop:∀(w0:World) (Z:ZV (freS kl ro)) (O:Nat->Prop),OpOk ⟨X.P,w0,freS kl ro,Z,O,X.tt⟩ o ⟨σ.nt,rs,ro⟩ (fun σ'=>σ'.nt=σ.nt/\Qan (dstV o σ') some=some v/\obsK σ'.ob some=some ob'))
  (_hwf:wofr ro ch ob' [] []=some (wo,fr))
  (hchk:(AS.closed ⟨σ.nt,rs,ro⟩&&Qgy wo ob' (ro.filter fun y=>Yv kl y.1)&&chkW ob' ro&&chkW ob' wo&&chkM ro fr ob'&&(fr.all X.fre&&kl.all X.fre)&&fr.all fun p=>!hasN p σ.ob)=true)
  (hspl:allP (fun y=>Ql wo y.1=some y.2\/(Ql wo y.1=none/\(Ql ro y.1).map (AO.cut (Yv kl))=some y.2)) ob') (_hflat:allP (fun y=>QfW y.2) ro):LoOk X nt o ⟨rs,ro,fr,o.dst,v,wo,kl⟩/\Lo.Pre ⟨rs,ro,fr,o.dst,v,wo,kl⟩ σ.fs:=by
 obtain⟨s1,s2⟩:=Qnm hsm
 simp only[Xac]at hchk
 obtain⟨⟨⟨⟨⟨⟨l,s⟩,t⟩,u⟩,z⟩,c6,c7⟩,c8⟩:=hchk
 refine⟨LoS.ok (fre:=freS kl ro) (ob':=ob') ⟨?_,rfl,by rw[<-hn];exact l,hspl,fun n b h2=>?_,fun n ao b h2=>?_,fun n b=>?_,fun n ao b=>QiG z (n,ao) b,fun n e es b=>?_⟩ (fun n b=>?_),⟨Jq.2 s1,Jq.2 s2,Jq.2 fun p hp=>?_⟩⟩
 ·intro w0 Z O
  have b:=hop w0 Z O
  rw[hn]at b
  intro a w j next Q i
  refine b a w j next Q (fun σ' a' w' ⟨e1,e2,e3⟩ hr'=>i σ' a' w' ⟨e1,fun d hd=>?_,?_⟩ hr')
  ·rw[QbD]at e2
   injection e2 with e2
   rw[<-e2]
   unfold dstV
   rw[show o.dst=some d from hd]
  ·rw[QkZ]at e3
   injection e3 with e3
 ·unfold freS at h2
  rw[b,Bool.not_true,Bool.or_false,XaV]at h2
  obtain⟨k,hk,e⟩:=h2
  exact(Qg _ _).1 e▸hk
 ·rcases Qfw s (n,ao) (XaB.2 ⟨b,QiK.2 h2⟩)with ⟨a',k1,k2⟩|⟨k1,k2⟩
  ·exact⟨a',Jz k1,Qho k2⟩
  ·obtain⟨y,c,e⟩:=Ji.1 k2
   have g:y.1=n:=e
   have m:=l
   simp only[AS.closed,Xac]at m
   have j:Ql ro n=some ao:=by
    have h:(Ql ro n).isSome=true:=by rw[Wn];exact Ji.2 ⟨_,b,rfl⟩
    obtain⟨x,r⟩:=XaY.1 h
    have:=Qae (WC m.2) (Jz r) b rfl
    injection this with _ this
    rw[r,this]
   have hw:Ql wo n=none:=by
    cases f:Ql wo n with
    | none=>rfl
    | some q=>rw[<-Wn,f]at k1;cases k1
   rcases Jq.1 hspl y c with h5|⟨_,h5⟩
   ·rw[g,hw]at h5;cases h5
   ·rw[g,j]at h5
    injection h5 with h5
    refine⟨y.2,by rw[<-g];exact c,?_⟩
    rw[<-h5]
    cases ao with
    | row e2 es dp=>exact .inr ⟨e2,es,es,dp,dp,rfl,rfl⟩
    | box e2 cs=>exact .inl ⟨rfl,rfl⟩
 ·rcases b with b|b
  ·obtain⟨y,c,rfl⟩:=Ji.1 b
   exact QdP t y c
  ·obtain⟨y,c,rfl⟩:=Ji.1 b
   exact QdP u y c
 ·trivial
 ·rcases b with b|b
  ·exact XaD.1 c7 n b
  ·exact XaD.1 c6 n b
 ·have:=XaD.1 c8 p hp
  rw[Xa6]at this
  show Ql σ.ob p=none
  cases h:Ql σ.ob p with
  | none=>rfl
  | some a=>
   have f:hasN p σ.ob=true:=by rw[<-Wn,h];rfl
   rw[this]at f;cases f
theorem Qvw{o:Oper}{l:List Oper}{acc:List (Nat×List Nat×Lo)}{i:Nat}{σ:AS}{rs:List (Nat×AV)}{ro ob' wo:List (Nat×AO)}{ch kl fr:List Nat}{v:AV}(hn:σ.nt=nt)(hg:o.guard=none)(hsm:XA σ o=some (rs,ro))
  (hop:∀(w0:World) (Z:ZV (freS kl ro)) (O:Nat->Prop),OpOk ⟨X.P,w0,freS kl ro,Z,O,X.tt⟩ o ⟨σ.nt,rs,ro⟩ (fun σ'=>σ'.nt=σ.nt/\Qan (dstV o σ') some=some v/\obsK σ'.ob some=some ob'))
  (_hwf:wofr ro ch ob' [] []=some (wo,fr))
  (hchk:(AS.closed ⟨σ.nt,rs,ro⟩&&Qgy wo ob' (ro.filter fun y=>Yv kl y.1)&&chkW ob' ro&&chkW ob' wo&&chkM ro fr ob'&&(fr.all X.fre&&kl.all X.fre)&&fr.all fun p=>!hasN p σ.ob)=true)
  (hspl:allP (fun y=>Ql wo y.1=some y.2\/(Ql wo y.1=none/\(Ql ro y.1).map (AO.cut (Yv kl))=some y.2)) ob') (hflat:allP (fun y=>QfW y.2) ro)
  {pr:List Nat} (hpr:V8 (Wf o acc) some=some pr) (hind:(acc.all fun y=>(pr.any fun k=>Nat.beq k y.1)||ind y.2.2 ⟨rs,ro,fr,o.dst,v,wo,kl⟩)=true) (haf:(o.after.toList.all fun e=>!Region.binds .any e||Nat.blt e.on i)=true)
  {σ':AS} (hnx:Qaf (Qfl σ ⟨rs,ro,fr,o.dst,v,wo,kl⟩)=some σ') (hK:ChA X nt ops N l ((i,pr,⟨rs,ro,fr,o.dst,v,wo,kl⟩)::acc) (i+1) σ'):ChA X nt ops N (o::l) acc i σ:=by
 rw[ZD]at hpr
 injection hpr with hpr
 subst hpr
 obtain⟨a,b,_⟩:=Qa9 hnx
 obtain⟨c,d⟩:=QqL hn hsm hop _hwf hchk hspl hflat
 exact⟨⟨rs,ro,fr,o.dst,v,wo,kl⟩,σ',⟨c.g hg,d⟩,⟨hind,haf⟩,⟨a.trans hn,b.trans (Qdo σ _)⟩,hK⟩
theorem Qxn{o:Oper}{l:List Oper}{acc:List (Nat×List Nat×Lo)}{i j d:Nat}{t:Bool}{σ:AS}{rs:List (Nat×AV)}{ro ob' wo:List (Nat×AO)}{ch kl fr:List Nat}{v:AV}(hn:σ.nt=nt)(hg:o.guard=some (j,t))(hd:(ops[j]?).bind (·.dst)=some d)(hv:look σ.sl d=.d (.b t))(hsm:XA σ o=some (rs,ro))
  (hop:∀(w0:World) (Z:ZV (freS kl ro)) (O:Nat->Prop),OpOk ⟨X.P,w0,freS kl ro,Z,O,X.tt⟩ o ⟨σ.nt,rs,ro⟩ (fun σ'=>σ'.nt=σ.nt/\Qan (dstV o σ') some=some v/\obsK σ'.ob some=some ob'))
  (_hwf:wofr ro ch ob' [] []=some (wo,fr))
  (hchk:(AS.closed ⟨σ.nt,rs,ro⟩&&Qgy wo ob' (ro.filter fun y=>Yv kl y.1)&&chkW ob' ro&&chkW ob' wo&&chkM ro fr ob'&&(fr.all X.fre&&kl.all X.fre)&&fr.all fun p=>!hasN p σ.ob)=true)
  (hspl:allP (fun y=>Ql wo y.1=some y.2\/(Ql wo y.1=none/\(Ql ro y.1).map (AO.cut (Yv kl))=some y.2)) ob') (hflat:allP (fun y=>QfW y.2) ro)
  {pr:List Nat} (hpr:V8 (Wf o acc) some=some pr) (hind:(acc.all fun y=>(pr.any fun k=>Nat.beq k y.1)||ind y.2.2 ⟨(d,.d (.b t))::rs,ro,fr,o.dst,v,wo,kl⟩)=true) (haf:(o.after.toList.all fun e=>!Region.binds .any e||Nat.blt e.on i)=true)
  {σ':AS} (hnx:Qaf (Qfl σ ⟨(d,.d (.b t))::rs,ro,fr,o.dst,v,wo,kl⟩)=some σ') (hK:ChA X nt ops N l ((i,pr,⟨(d,.d (.b t))::rs,ro,fr,o.dst,v,wo,kl⟩)::acc) (i+1) σ'):ChA X nt ops N (o::l) acc i σ:=by
 rw[ZD]at hpr
 injection hpr with hpr
 subst hpr
 obtain⟨c,f,_⟩:=Qa9 hnx
 obtain⟨g,a⟩:=QqL hn hsm hop _hwf hchk hspl hflat
 exact⟨⟨(d,.d (.b t))::rs,ro,fr,o.dst,v,wo,kl⟩,σ',⟨g.yes hg hd,⟨hv,a.rs⟩,a.ro,a.fr⟩,⟨hind,haf⟩,⟨c.trans hn,f.trans (Qdo σ _)⟩,hK⟩
theorem Qyu{o:Oper}{l:List Oper}{acc:List (Nat×List Nat×Lo)}{i j d:Nat}{t t':Bool}{σ:AS}(hn:σ.nt=nt)(hg:o.guard=some (j,t))(hd:(ops[j]?).bind (·.dst)=some d)(hv:look σ.sl d=.d (.b t'))(hne:(t'==t)=false)(ht:(o.dst.all fun q=>Nat.blt q σ.nt)=true)
  {pr:List Nat} (hpr:V8 (Wf o acc) some=some pr) (hind:(acc.all fun y=>(pr.any fun k=>Nat.beq k y.1)||ind y.2.2 ⟨[(d,.d (.b t'))],[],[],o.dst,.tup [],[],[]⟩)=true) (haf:(o.after.toList.all fun e=>!Region.binds .any e||Nat.blt e.on i)=true)
  {σ':AS} (hnx:Qaf (Qfl σ ⟨[(d,.d (.b t'))],[],[],o.dst,.tup [],[],[]⟩)=some σ') (hK:ChA X nt ops N l ((i,pr,⟨[(d,.d (.b t'))],[],[],o.dst,.tup [],[],[]⟩)::acc) (i+1) σ'):ChA X nt ops N (o::l) acc i σ:=by
 rw[ZD]at hpr
 injection hpr with hpr
 subst hpr
 obtain⟨a,c,_⟩:=Qa9 hnx
 exact⟨⟨[(d,.d (.b t'))],[],[],o.dst,.tup [],[],[]⟩,σ',⟨Qyr hg hd hne (fun q hq=>by rw[hq]at ht;rw[<-hn];exact ht),⟨hv,trivial⟩,trivial,trivial⟩,⟨hind,haf⟩,⟨a.trans hn,c.trans (Qdo σ _)⟩,hK⟩
theorem Qss{o:Oper}{l:List Oper}{acc:List (Nat×List Nat×Lo)}{i d:Nat}{t:Bool}{σ:AS}(hv:look σ.sl d=.d (.b t))(h1:t=true->ChA X nt ops N (o::l) acc i (σ.put d (.d (.b true))))(h2:t=false->ChA X nt ops N (o::l) acc i (σ.put d (.d (.b false)))):ChA X nt ops N (o::l) acc i σ:=by
 have a:∀t',t=t'->(σ.put d (.d (.b t'))).fs=σ.fs:=fun t' e=>by
  subst e
  refine Fs.ext (funext fun u=>?_) rfl
  simp only[AS.fs,AS.put,QQ]
  split
  ·rename_i e;subst e;exact hv.symm
  ·rfl
 cases c:t with
 | true=>
  have:=h1 c
  simp only[ChA,a true c]at this ⊢
  exact this
 | false=>
  have:=h2 c
  simp only[ChA,a false c]at this ⊢
  exact this
theorem Qx9{acc:List (Nat×List Nat×Lo)}{i:Nat}{σ:AS}(h1:W4 σ.ob=true)(h2:N σ):ChA X nt ops N [] acc i σ:=⟨h1,h2⟩
def memO(o:Oper):Bool:=match o.op with
 | .alloc _|.box _ _|.store _ _ _|.buildSlice _ _ _|.makeSlice _ _ _=>true
 | .call c=>(match c.callee with
  | .builtin .append=>true
  | _=>false)
 | _=>false
theorem QqD{id:Nat}{l:List Oper}{Q:Exit->AS->Prop}{σ σ':AS}(_:l.any memO=false)(hm:X.P.follows .mixedOrders=true)(hB:Region.lexB .any l.toArray=true)(hn:Qaf σ=some σ')(h:QsOk X l.toArray l (Q .normal) σ'):AWp X (.region id l.toArray true) Q σ:=Qdf hn (Qtb hm hB h)
theorem QY(id:Nat){l:List Oper}{Q:Exit->AS->Prop}{σ σ':AS}(hm:X.P.follows .mixedOrders=true)(hn:Qaf σ=some σ')(h:ChA X σ'.nt l.toArray (Q .normal) l [] 0 σ'):AWp X (.region id l.toArray true) Q σ:=Qdf hn (Qii hm h)
theorem QoX{id:Nat}{l:List Oper}{Q:Exit->AS->Prop}{σ σ':AS}(_:l.any memO=true)(hm:X.P.follows .mixedOrders=true)(hn:Qaf σ=some σ')(h:ChA X σ'.nt l.toArray (Q .normal) l [] 0 σ'):AWp X (.region id l.toArray true) Q σ:=Qdf hn (Qii hm h)
end
end
section

def boxB:List (Nat×AO)->Bool
 | []=>true
 | (_,.row _ _ _)::l=>boxB l
 | (_,.box _ cs)::l=>okpL (fun _=>false) cs&&boxB l
theorem Qbs:∀{l:List (Nat×AO)},boxB l=true->∀{n:Nat} {e:TypeId} {cs:List AV},(n,AO.box e cs)∈l->okpL (fun _=>false) cs=true
 | (_,.row _ _ _)::l,h,n,e,cs,hm=>by
  rcases Xai.1 hm with hm|hm
  ·cases hm
  ·exact Qbs (l:=l) h hm
 | (_,.box _ cs')::l,h,n,e,cs,hm=>by
  simp only[boxB,Xac]at h
  rcases Xai.1 hm with hm|hm
  ·injection hm with _ hm
   injection hm with _ hm
   rw[hm];exact h.1
  ·exact Qbs (l:=l) h.2 hm
def Qa1:List (Nat×AO)->Prop
 | []=>True
 | (_,.row _ es d)::l=>(d=true\/Wg es=true\/d=false)/\Qa1 l
 | (_,.box _ cs)::l=>okpL (fun _=>false) cs=true/\Qa1 l
def QfN:List (Nat×AO)->List (Nat×AO)->Prop
 | [],[]=>True
 | (n,x)::l,(m,y)::l'=>(n=m/\x.isRow=y.isRow/\x.lens=y.lens)/\QfN l l'
 | _,_=>False
def ZH(Zp:Nat->Prop)(eh:List Ent):ZV fre0:=⟨Zp,fun n v=>fre0 n=false->∀x∈eh,x.nm=n->v=x.val,fun n v h h'=>by rw[h]at h';cases h'⟩
def OH(eh:List Ent)(b:Nat):Prop:=∃x∈eh,x.hd b
def MCalls{ι:Type}(P:Program)(f:FuncId)(args:List AV)(obs:List (Nat×AO))(ok:ι->Prop)(rs:ι->List AV)(obs' rob:ι->List (Nat×AO)):Prop:=
 (Qa1 obs/\∀i,ok i->QfN obs (obs' i)/\Qa1 (obs' i))/\
 ∀(w:World) (Zp:Nat->Prop) (eh:List Ent) (us:List Value),Mem P w (ZH Zp eh) (OH eh) eh w->eh.map Ent.key=obs->Qn w eh (Imm w (ZH Zp eh) (OH eh) eh w) args us->
  (∀w',(callFunc f us.toArray).run P w'=.ok (.enter f us.toArray) w')/\
  Calls P f us.toArray w fun e w'=>∃i v en,(ok i/\boxB (rob i)=true)/\e=.returned v/\Mem P w (ZH Zp eh) (OH eh) en w'/\(en.map Ent.key).Perm (rob i++obs' i)/\(one (rs i)).shows w' en (Imm w (ZH Zp eh) (OH eh) en w') v
theorem Zq:∀{l:List (Nat×AO)},Qa1 l->∀{n:Nat} {e:TypeId} {cs:List AV},(n,AO.box e cs)∈l->okpL (fun _=>false) cs=true
 | (m,.row e' es' d')::l,h,n,e,cs,hm=>by
  rcases Xai.1 hm with e1|hm
  ·injection e1 with e1 e2;cases e2
  ·exact Zq h.2 hm
 | (m,.box e' cs')::l,h,n,e,cs,hm=>by
  rcases Xai.1 hm with e1|hm
  ·injection e1 with e1 e2;injection e2 with e2 e3;subst e3;exact h.1
  ·exact Zq h.2 hm
theorem QmE:∀{l l':List (Nat×AO)},QfN l l'->∀{x:Nat×AO},x∈l->∃y∈l',y.1=x.1/\y.2.isRow=x.2.isRow/\y.2.lens=x.2.lens
 | (n,x)::l,(m,y)::l',h,z,hz=>by
  rcases Xai.1 hz with rfl|hz
  ·exact⟨(m,y),Xaa,h.1.1.symm,h.1.2.1.symm,h.1.2.2.symm⟩
  ·obtain⟨q,h1,h2⟩:=QmE h.2 hz
   exact⟨q,Xad _ h1,h2⟩
theorem QcK:∀{l l':List (Nat×AO)},QfN l l'->l'.map Prod.fst=l.map Prod.fst
 | [],[],_=>rfl
 | (n,x)::l,(m,y)::l',h=>by simp only[Xas,QcK h.2,h.1.1]
theorem Xc{w w':World}{en en':List Ent}{I I':Nat->Prop}(hs:w.heap.size<=w'.heap.size)(hS:∀b,I b->Same w w' b)(hI:∀b,I b->I' b){xs:List AV}{us:List Value}(hc:okpL (fun _=>false) xs=true)(h:Qn w en I xs us):Qn w' en' I' xs us:=by
 have:=Wl (p:=fun _=>false) (en':=en') hs hS hI (fun _ _ h=>by cases h) xs us h
 rwa [Qcw xs hc]at this
theorem Qeb:∀{en:List Ent},(en.map Ent.nm).Nodup->∀{x y:Ent},x∈en->y∈en->x.nm=y.nm->x=y
 | a::en,h,x,y,hx,hy,he=>by
  simp only[Xas,XaQ,Xaf,not_exists,not_and]at h
  rcases Xai.1 hx with rfl|hx' <;> rcases Xai.1 hy with rfl|hy'
  ·rfl
  ·exact absurd he.symm (h.1 y hy')
  ·exact absurd he (h.1 x hx')
  ·exact Qeb h.2 hx' hy' he

mutual
def AV.na2(n:Nat)(q:Nat->Bool):AV->Bool
 | .d _=>true
 | .nil=>true
 | .row i=>Nat.blt i n
 | .sub i _ _=>q i
 | .ptr i _=>Nat.blt i n
 | .agg xs=>naL2 n q xs
 | .tup xs=>naL2 n q xs
 | _=>false
def naL2(n:Nat)(q:Nat->Bool):List AV->Bool
 | []=>true
 | x::xs=>x.na2 n q&&naL2 n q xs
end
mutual
def AV.ren2(ρ:List Nat):AV->AV
 | .row i=>.row (ρ.getD i 0)
 | .ptr i o=>.ptr (ρ.getD i 0) o
 | .agg xs=>.agg (QcY ρ xs)
 | .tup xs=>.tup (QcY ρ xs)
 | x=>x
def QcY(ρ:List Nat):List AV->List AV
 | []=>[]
 | x::xs=>x.ren2 ρ::QcY ρ xs
end
theorem Qty(ρ:List Nat)(rs:List AV):(one rs).ren2 ρ=one (QcY ρ rs):=by
 match rs with
 | []=>rfl
 | [x]=>rfl
 | x::y::zs=>rfl
theorem Qv6(n:Nat)(q:Nat->Bool)(rs:List AV)(h:naL2 n q rs=true):(one rs).na2 n q=true:=by
 match rs,h with
 | [],_=>rfl
 | [x],h=>simpa [naL2,one] using h
 | x::y::zs,h=>exact h
section
variable {w:World} {en en':List Ent} {I I':Nat->Prop} {n:Nat} {q:Nat->Bool} {ρ:List Nat}
mutual
theorem AV.shows_ren2(hI:∀b,I b->I' b)(he:∀i,i<n->∀x∈en,x.nm=ρ.getD i 0->∃y∈en',y.nm=i/\y.val=x.val/\y.ao.isRow=x.ao.isRow)(hq:∀k,q k=true->∀x∈en,x.nm=k->∃y∈en',y.nm=k/\y.val=x.val/\y.ao.isRow=x.ao.isRow/\y.ao.lens=x.ao.lens) :
  ∀(x:AV) (u:Value),x.na2 n q=true->(x.ren2 ρ).shows w en I u->x.shows w en' I' u
 | .d x,u,_,h=>by
  obtain⟨F,h1,h2⟩:=h
  exact⟨F,h1,fun b hb=>hI b (h2 b hb)⟩
 | .nil,_,_,h=>h
 | .row i,u,hn,h=>by
  obtain⟨x,hx,h1,h2,h3⟩:=h
  obtain⟨y,hy,g1,g2,g3⟩:=he i (Jp hn) x hx h1
  exact⟨y,hy,g1,by rw[g3];exact h2,by rw[g2];exact h3⟩
 | .sub i a b,u,hn,h=>by
  obtain⟨x,hx,h1,h2,h3,A,m,c,z,h4,h5,h6⟩:=h
  obtain⟨y,hy,g1,g2,g3,g4⟩:=hq i hn x hx h1
  exact⟨y,hy,g1,by rw[g3];exact h2,by rw[g4];exact h3,A,m,c,z,by rw[g2];exact h4,by rw[g4];exact h5,h6⟩
 | .ptr i off,u,hn,h=>by
  obtain⟨x,hx,h1,h2,g,h3,h4⟩:=h
  obtain⟨y,hy,g1,g2,g3⟩:=he i (Jp hn) x hx h1
  exact⟨y,hy,g1,by rw[g3];exact h2,g,by rw[g2];exact h3,h4⟩
 | .agg xs,u,hn,h=>by
  obtain⟨us,h1,h2⟩:=h
  exact⟨us,h1,QaA hI he hq xs us hn h2⟩
 | .tup xs,u,hn,h=>by
  obtain⟨us,h1,h2⟩:=h
  exact⟨us,h1,QaA hI he hq xs us hn h2⟩
theorem QaA(hI:∀b,I b->I' b)(he:∀i,i<n->∀x∈en,x.nm=ρ.getD i 0->∃y∈en',y.nm=i/\y.val=x.val/\y.ao.isRow=x.ao.isRow)(hq:∀k,q k=true->∀x∈en,x.nm=k->∃y∈en',y.nm=k/\y.val=x.val/\y.ao.isRow=x.ao.isRow/\y.ao.lens=x.ao.lens) :
  ∀(xs:List AV) (us:List Value),naL2 n q xs=true->Qn w en I (QcY ρ xs) us->Qn w en' I' xs us
 | [],_,_,h=>h
 | x::xs,us,hn,h=>by
  obtain⟨u,us',rfl,h1,h2⟩:=h
  simp only[naL2,Xac]at hn
  exact⟨u,us',rfl,AV.shows_ren2 hI he hq x u hn.1 h1,QaA hI he hq xs us' hn.2 h2⟩
end
end
def Qap(σ:AS):List Nat->Nat->List (Nat×AO)->Prop
 | [],_,[]=>True
 | p::ρ,i,(j,.row e es d)::rob=>Nat.beq i j=true/\Ql σ.ob p=some (.row e es d)/\Qap σ ρ (i+1) rob
 | p::ρ,i,(j,.box e cs)::rob=>Nat.beq i j=true/\Ql σ.ob p=some (.box e cs)/\Qap σ ρ (i+1) rob
 | _,_,_=>False
theorem QjV{σ:AS}{p i j:Nat}{ρ:List Nat}{ao:AO}{rob:List (Nat×AO)}(h:Qap σ (p::ρ) i ((j,ao)::rob)):i=j/\Ql σ.ob p=some ao/\Qap σ ρ (i+1) rob:=by
 cases ao with
 | row e es d=>
  obtain⟨a,b,c⟩:=h
  exact⟨(Qg _ _).1 a,b,c⟩
 | box e cs=>
  obtain⟨a,b,c⟩:=h
  exact⟨(Qg _ _).1 a,b,c⟩
theorem Qif{X:Cx}{σ:AS}{a:Act}{w:World}{en:List Ent}(h:J2 X σ a w en):∀(ρ:List Nat) (i:Nat) (rob:List (Nat×AO)),ρ.Nodup->Qap σ ρ i rob->
  ∃er:List Ent,er.map Ent.key=rob/\(∀y∈er,∃x∈en,x.nm∈ρ/\y={ x with nm:=y.nm })/\
   (er.Pairwise fun y z=>∀b,y.hd b->¬z.hd b)/\(er.Pairwise fun y z=>y.ao.deep=true->z.ao.deep=true->∀b∈y.fs,b∉z.fs)/\
   (∀j,j<ρ.length->∀x∈en,x.nm=ρ.getD j 0->∃y∈er,y.nm=i+j/\y.val=x.val/\y.ao.isRow=x.ao.isRow)/\(∀y∈er,i<=y.nm)
   /\(er.map Ent.nm).Nodup
 | [],i,[],_,_=>⟨[],rfl,by simp,by simp,by simp,by simp,by simp,by simp⟩
 | p::ρ,i,(j',ao)::rob',hn,hr=>by
  obtain⟨hj,h1,h2⟩:=QjV hr
  subst hj
  rw[XaQ]at hn
  obtain⟨er,g1,g2,g3,g4,g5,g6,g7⟩:=Qif h ρ (i+1) rob' hn.2 h2
  obtain⟨x,hx,hxn,hxa⟩:=h.ent h1
  refine⟨{ x with nm:=i }::er,by simp[Ent.key,hxa,<-g1],?_,?_,?_,?_,?_,?_⟩
  ·intro y hy
   rcases Xai.1 hy with rfl|hy
   ·exact⟨x,hx,by simp[hxn],rfl⟩
   ·obtain⟨z,k1,k2,k3⟩:=g2 y hy
    exact⟨z,k1,Xad _ k2,k3⟩
  ·rw[Xau]
   refine⟨fun y hy b hb=>?_,g3⟩
   obtain⟨z,k1,k2,k3⟩:=g2 y hy
   rw[k3]
   exact h.mem.hd_ne hx k1 (fun e0=>hn.1 (by rw[<-hxn,e0];exact k2)) hb
  ·rw[Xau]
   refine⟨fun y hy dx dy b hb=>?_,g4⟩
   obtain⟨z,k1,k2,k3⟩:=g2 y hy
   rw[k3]at dy ⊢
   exact h.mem.apart_ne hx k1 (fun e0=>hn.1 (by rw[<-hxn,e0];exact k2)) dx dy hb
  ·intro j hj y hy hyn
   cases j with
   | zero=>
    simp only[XbN]at hyn
    have:=h.mem.ent_unique hx hy (hxn.trans hyn.symm)
    subst this
    exact⟨_,Xaa,rfl,rfl,rfl⟩
   | succ j=>
    simp only[Xch]at hyn
    obtain⟨z,k1,k2,k3⟩:=g5 j (by simpa using hj) y hy hyn
    exact⟨z,Xad _ k1,by omega,k3⟩
  ·intro y hy
   rcases Xai.1 hy with rfl|hy
   ·exact Xaj _
   ·have:=g6 y hy;omega
  ·simp only[Xas,XaQ]
   refine⟨fun hm=>?_,g7⟩
   obtain⟨y,hy,e0⟩:=Xaf.1 hm
   have:=g6 y hy
   omega
def RetM{ι:Type}(X:Cx)(fn:Func)(rs:ι->List AV)(obs' rob:ι->List (Nat×AO))(i:ι)(ρ:List Nat)(σ:AS):Prop:=
 (YZ ρ&&naL2 ρ.length (fun k=>hasN k (obs' i)) (rs i)&&boxB (rob i)&&(ρ.all fre0)&&((rob i).all fun y=>fre0 y.1)&&W4 (obs' i)&&((obs' i).all fun y=>!fre0 y.1))=true/\QbY X σ fn.results.toList (QcY ρ (rs i))/\Qap σ ρ 0 (rob i)/\obLe σ (obs' i)
def retM{ι:Type}(X:Cx)(fn:Func)(ok:ι->Prop)(rs:ι->List AV)(obs' rob:ι->List (Nat×AO)):Exit->AS->Prop
 | .normal,σ|.ret,σ=>∃i ρ,ok i/\RetM X fn rs obs' rob i ρ σ
 | _,_=>False
theorem Jk{ι:Type}{X:Cx}{fn:Func}{ok:ι->Prop}{rs:ι->List AV}{obs' rob:ι->List (Nat×AO)}{σ:AS}(i:ι)(ρ:List Nat)(h0:ok i)
  (h1:(YZ ρ&&naL2 ρ.length (fun k=>hasN k (obs' i)) (rs i)&&boxB (rob i)&&(ρ.all fre0)&&((rob i).all fun y=>fre0 y.1)&&W4 (obs' i)&&((obs' i).all fun y=>!fre0 y.1))=true) (h2:QbY X σ fn.results.toList (QcY ρ (rs i))) (h3:Qap σ ρ 0 (rob i)) (h4:obLe σ (obs' i)):retM X fn ok rs obs' rob .ret σ:=⟨i,ρ,h0,h1,h2,h3,h4⟩
theorem QqS{ι:Type}{P:Program}{w0:World}{Z:ZV fre0}{O:Nat->Prop}{tt:(T:TypeId)->Option (TI P T)}{fn:Func}{ok:ι->Prop}{rs:ι->List AV}{obs' rob:ι->List (Nat×AO)}{i:ι}{ρ:List Nat}{σ:AS}{a:Act}{w:World}
  (hok:ok i) (hfl:Qa1 (obs' i)) (hr:RetM ⟨P,w0,fre0,Z,O,tt⟩ fn rs obs' rob i ρ σ) (h:Rel ⟨P,w0,fre0,Z,O,tt⟩ σ a w) :
  a.defers=[]/\∃v,(results fn a.tmps).run P w=.ok v w/\∃i v' en,(ok i/\boxB (rob i)=true)/\Ending.returned v=.returned v'/\Mem P w0 Z O en w/\(en.map Ent.key).Perm (rob i++obs' i)/\(one (rs i)).shows w en (Imm w0 Z O en w) v':=by
 obtain⟨en,h1⟩:=h
 obtain⟨r1,r3,r4,r5⟩:=hr
 simp only[Xac]at r1
 obtain⟨⟨⟨⟨⟨⟨q1,q2⟩,qb⟩,q3⟩,q4⟩,q5⟩,q6⟩:=r1
 obtain⟨t,h2,r⟩:=VQ h1 _ _ r3
 obtain⟨er,g1,g2,g3,g4,g5,g6,g7⟩:=Qif h1 ρ 0 (rob i) (Wc q1) r4
 have m:=h1.mem
 let p:Nat->Bool:=fun n=>hasN n (obs' i)
 let eo:List Ent:=(en.filter fun y=>p y.nm).map (Ent.cut p)
 have a0:σ.le ⟨σ.nt,[],obs' i⟩:=by
  refine⟨rfl,trivial,r5,?_⟩
  simp only[AS.closed,Xac]
  refine⟨⟨rfl,?_⟩,q5⟩
  rw[XaD]
  rintro ⟨n,ao⟩ c
  cases ao with
  | row=>rfl
  | box e cs=>
   have hc:=Zq hfl c
   have key:∀{p q:Nat->Bool} (_:∀n,p n=true->q n=true),(∀(x:AV),x.okp p=true->x.okp q=true)/\∀(xs:List AV),okpL p xs=true->okpL q xs=true:=fun {p q} hpq=>by
    refine⟨fun x=>AV.rec (motive_1:=fun x=>x.okp p=true->x.okp q=true) (motive_2:=fun xs=>okpL p xs=true->okpL q xs=true) (fun _=>rfl) (fun _ _=>rfl) (fun _=>rfl) (fun o h=>hpq o h) (fun o _ h=>hpq o h) (fun o _ _ h=>hpq o h) (fun _ _ _=>rfl) (fun xs ih h=>ih h) (fun xs ih h=>ih h) (fun _ xs ih h=>ih h) (fun o _ _ h=>hpq o h) (fun _=>rfl) (fun x xs ih1 ih2 h=>?_) x,fun xs=>AV.rec_1 (motive_1:=fun x=>x.okp p=true->x.okp q=true) (motive_2:=fun xs=>okpL p xs=true->okpL q xs=true) (fun _=>rfl) (fun _ _=>rfl) (fun _=>rfl) (fun o h=>hpq o h) (fun o _ h=>hpq o h) (fun o _ _ h=>hpq o h) (fun _ _ _=>rfl) (fun xs ih h=>ih h) (fun xs ih h=>ih h) (fun _ xs ih h=>ih h) (fun o _ _ h=>hpq o h) (fun _=>rfl) (fun x xs ih1 ih2 h=>?_) xs⟩
    all_goals
     simp only[okpL,Xac]at h ⊢
     exact⟨ih1 h.1,ih2 h.2⟩
   exact(key (p:=fun _=>false) (q:=fun n=>hasN n (obs' i)) (fun _ h=>by cases h)).2 cs hc
 have hτ:=h1.le a0
 have ak:(eo.map Ent.key).Perm (obs' i):=hτ.ob
 have f:∀{y:Ent},y∈eo->∃z∈en,p z.nm=true/\y=z.cut p:=by
  intro y c
  obtain⟨z,d,rfl⟩:=Xaf.1 c
  rw[XaB]at d
  exact⟨z,d.1,d.2,rfl⟩
 have al:∀y∈er,fre0 y.nm=true:=fun y c=>by
  have:y.key∈rob i:=g1▸Xaf.2 ⟨y,c,rfl⟩
  exact XaD.1 q4 y.key this
 have ab:∀n,p n=true->fre0 n=false:=fun n hn=>by
  obtain⟨y,c,rfl⟩:=Ji.1 hn
  have:=XaD.1 q6 y c
  simpa using this
 have hρ:∀n∈ρ,fre0 n=true:=XaD.1 q3
 have hI:∀b,Imm w0 Z O en w b->Imm w0 Z O (er++eo) w b:=fun b hb=>⟨hb.1,hb.2.1,fun y c=>by
  rcases Xag.1 c with c|c
  ·obtain⟨x,g,_,e⟩:=g2 y c
   rw[e];exact hb.2.2 x g
  ·obtain⟨z,d,_,rfl⟩:=f c
   exact fun hq=>hb.2.2 z d ((Ent.hd_cut p z b).1 hq)⟩
 refine⟨h1.defers,(if h:t.length=1 then t[0]else .tuple t.toArray),?_,i,_,er++eo,⟨hok,qb⟩,rfl,⟨m.os,m.tape,m.output,m.size,m.old,?_,?_,?_,?_,?_⟩,?_,?_⟩
 ·have e:results fn a.tmps=(do let vs <-fn.results.mapM (ZZ a.tmps);pure (if h:vs.size=1 then vs[0]else .tuple vs)):=rfl
  have e2:fn.results.mapM (ZZ a.tmps)=(do let l <-fn.results.toList.mapM (ZZ a.tmps);pure l.toArray):=by
   rw[bind_pure_comp,<-XcF]
  rw[e,e2]
  simp only[Sem.run_bind,h2,Result.andThen,Sem.run_pure]
  simp
 ·rw[XaG,Xbg]
  refine⟨g7,hτ.mem.names,fun n hn n' hn' e=>?_⟩
  subst e
  obtain⟨y,c,e1⟩:=Xaf.1 hn
  obtain⟨z,d,e2⟩:=Xaf.1 hn'
  obtain⟨z',_,a1,rfl⟩:=f d
  have h4:=al y c
  have h5:=ab _ a1
  rw[e1]at h4
  rw[show z'.nm=n from e2,h4]at h5
  cases h5
 ·rw[Xbk]
  refine⟨g3,hτ.mem.blks,fun y c z d b hb=>?_⟩
  obtain⟨x,g,ac,e⟩:=g2 y c
  obtain⟨z',ad,ae,rfl⟩:=f d
  rw[e]at hb
  exact fun hq=>m.hd_ne g ad (fun e0=>by
   have h4:=hρ _ ac
   have h5:=ab _ ae
   rw[e0,h5]at h4;cases h4) hb ((Ent.hd_cut p z' b).1 hq)
 ·intro y c
  rcases Xag.1 c with c|c
  ·obtain⟨x,g,_,e⟩:=g2 y c
   have hok:=m.ok x g
   unfold EntOk at hok
   split at hok
   ·rename_i e1 es dp s
    obtain⟨z,vs,k0,k1,k2,k3,k4,k5,k6,k7⟩:=hok
    rw[e]
    unfold EntOk
    simp only[s]
    exact⟨z,vs,k0,k1,k2,k3,k4,fun hd b hb=>hI b (k5 hd b hb),k6,k7⟩
   ·rename_i e1 cs s
    obtain⟨k0,q,au,k1,k2,k3,k4⟩:=hok
    have hc:okpL (fun _=>false) cs=true:=Qbs qb (n:=y.nm) (e:=e1) (by
     rw[<-g1]
     exact Xaf.2 ⟨y,c,by rw[e];exact congrArg (Prod.mk y.nm) s⟩)
    rw[e]
    unfold EntOk
    simp only[s]
    exact⟨k0,q,au,k1,k2,k3,Xc (Xaj _) (fun _ _=>rfl) hI hc k4⟩
  ·obtain⟨z,d,be,rfl⟩:=f c
   exact(m.ok z d).mono (Xaj _) (fun _ _=>rfl) hI (fun _ hb=>hb) (fun _ _=>rfl) (fun x g hpx=>⟨x.cut p,Xav _ (Xaf.2 ⟨x,XaB.2 ⟨g,hpx⟩,rfl⟩),rfl,rfl,AO.cut_isRow p x.ao,AO.cut_lens p x.ao⟩)
 ·rw[Xbk]
  refine⟨g4,hτ.mem.apart,fun y c z d hdy hdz b hb=>?_⟩
  obtain⟨x,g,ac,e⟩:=g2 y c
  have az:x.ao.deep=true:=by rw[e]at hdy;exact hdy
  obtain⟨z',ad,ae,rfl⟩:=f d
  rw[e]at hb
  exact m.apart_ne g ad (fun e0=>by
   have h4:=hρ _ ac
   have h5:=ab _ ae
   rw[e0,h5]at h4;cases h4) az (by rw[<-AO.cut_deep p];exact hdz) hb
 ·intro y c
  rcases Xag.1 c with c|c
  ·exact Z.lo _ _ (al y c)
  ·obtain⟨z,d,_,rfl⟩:=f c
   exact m.fix z d
 ·rw[XaG,g1]
  exact Xco _ ak
 ·have key:(one (QcY ρ (rs i))).shows w en (Imm w0 Z O en w) (if h:t.length=1 then t[0]else .tuple t.toArray):=by
   generalize QcY ρ (rs i)=vs at r
   match vs,r with
   | [],r=>
    have:t=[]:=r
    subst this
    exact⟨[],rfl,rfl⟩
   | [x],r=>
    obtain⟨u,a5,rfl,k1,k2⟩:=r
    have:a5=[]:=k2
    subst this
    exact k1
   | x::y::zs,r=>
    have:t.length≠1:=by rw[QD r];simp
    rw[dif_neg this]
    exact⟨t,rfl,r⟩
  rw[<-Qty]at key
  exact AV.shows_ren2 hI (fun j hj x g hn=>by
   obtain⟨y,c,k1,k2⟩:=g5 j hj x g hn
   exact⟨y,Xat _ c,by omega,k2⟩) (fun k hk x g hn=>by
   subst hn
   exact⟨x.cut p,Xav _ (Xaf.2 ⟨x,XaB.2 ⟨g,hk⟩,rfl⟩),rfl,rfl,AO.cut_isRow _ _,AO.cut_lens _ _⟩) _ _ (Qv6 _ _ _ q2) key
theorem Jb{ι:Type}{P:Program}(tt:(T:TypeId)->Option (TI P T)){f:FuncId}{fn:Func}{c:Code}{args:List AV}{obs:List (Nat×AO)}{ok:ι->Prop}{rs:ι->List AV}{obs' rob:ι->List (Nat×AO)}
  (hf : P.funcs[f]? = some fn) (hname : (fn.name == "runtime.NumGoroutine") = false) (hb : fn.body = some c) (hn : Nat.ble args.length fn.ntmps = true) (hfl : Qa1 obs) (hs : ∀ i, ok i → QfN obs (obs' i) ∧ Qa1 (obs' i))
  (h:∀(w0:World) (Z:ZV fre0) (O:Nat->Prop),AWp ⟨P,w0,fre0,Z,O,tt⟩ c (retM ⟨P,w0,fre0,Z,O,tt⟩ fn ok rs obs' rob) ⟨fn.ntmps,Qfk 0 args,obs⟩):MCalls P f args obs ok rs obs' rob:=by
 refine⟨⟨hfl,hs⟩,?_⟩
 intro w Zp d b s j m
 refine⟨fun w'=>Go.MuLone.run_callFunc_enter hf hname hb _ w',?_⟩
 refine calls_of_wp hf hb ?_
 have k:=QD m
 have r:b.length<=fn.ntmps:=by rw[k];exact XaL hn
 have l:Rel ⟨P,w,fre0,ZH Zp d,OH d,tt⟩ ⟨fn.ntmps,Qfk 0 args,obs⟩ { tmps:=b.toArray++Array.replicate (fn.ntmps-b.toArray.size) undef,defers:=[] } w:=by
  refine⟨d,s,by rw[j],rfl,by simp;omega,fun t=>?_⟩
  simp only[Qab,Xae,if_true,XbE]
  rw[Array.getD_eq_getD_getElem?]
  cases o:args[t]? with
  | none=>simp only[List.getD,o,Xce];trivial
  | some x=>
   obtain⟨u,p,q⟩:=WF m o
   simp only[List.getD,o,XaJ]
   have n:t<b.length:=(List.getElem?_eq_some_iff.1 p).1
   have:(b.toArray++Array.replicate (fn.ntmps-b.toArray.size) undef)[t]?=some u:=by
    rw[Array.getElem?_append_left (by simpa using n)]
    simpa using p
   rw[this]
   exact q
 refine wp_mono (h w (ZH Zp d) (OH d) _ w l) (fun e a' w' ⟨σ,a,hr⟩=>?_)
 cases e with
 | normal=>obtain⟨i,ρ,g,a⟩:=a;exact QqS g (hs i g).2 a hr
 | ret=>obtain⟨i,ρ,g,a⟩:=a;exact QqS g (hs i g).2 a hr
 | _=>exact a.elim

def idxN:List Nat->Nat->Nat->Option Nat
 | [],_,_=>none
 | q::l,n,p=>bif Nat.beq q p then some n else idxN l (n+1) p
theorem Xu:∀{l:List Nat} {n p k:Nat},idxN l n p=some k->n<=k/\k-n<l.length/\l.getD (k-n) 0=p
 | q::l,n,p,k,h=>by
  simp only[idxN]at h
  cases hq:Nat.beq q p with
  | true=>
   rw[hq]at h
   injection h with h
   subst h
   refine⟨Xaj _,by simp,?_⟩
   rw[Xb4]
   exact(Qg _ _).1 hq
  | false=>
   rw[hq]at h
   obtain⟨h1,h2,h3⟩:=Xu h
   have e:k-n=(k-(n+1))+1:=by omega
   exact⟨by omega,by simp only[Xap];omega,by rw[e];exact h3⟩
mutual
def AV.handB(ρ:List Nat):AV->Option AV
 | .d x=>some (.d x)
 | .nil=>some .nil
 | .row p=>match idxN ρ 1000000 p with
  | some k=>some (.row k)
  | none=>none
 | .ptr p o=>match idxN ρ 1000000 p with
  | some k=>some (.ptr k o)
  | none=>none
 | .agg xs=>match Qfu ρ xs with
  | some ys=>some (.agg ys)
  | none=>none
 | .clo g xs=>match Qfu ρ xs with
  | some ys=>some (.clo g ys)
  | none=>none
 | .pd e i=>some (.pd e i)
 | _=>none
def Qfu(ρ:List Nat):List AV->Option (List AV)
 | []=>some []
 | x::xs=>match x.handB ρ with
  | some y=>match Qfu ρ xs with
   | some ys=>some (y::ys)
   | none=>none
  | none=>none
end
def AS.handA(σ:AS)(ρ:List Nat):List Operand->Option (List AV)
 | []=>some []
 | x::xs=>match (σ.ev x).handB ρ with
  | some y=>match σ.handA ρ xs with
   | some ys=>some (y::ys)
   | none=>none
  | none=>none
def AS.handed(σ:AS):Nat->List Nat->Option (List (Nat×AO))
 | _,[]=>some []
 | n,p::ρ=>match Ql σ.ob p with
  | some ao=>match σ.handed (n+1) ρ with
   | some l=>some ((n,ao)::l)
   | none=>none
  | none=>none
theorem Qd0{X:Cx}{σ:AS}{a:Act}{w:World}{en:List Ent}(h:J2 X σ a w en):∀(ρ:List Nat) (n:Nat) (obs:List (Nat×AO)),ρ.Nodup->σ.handed n ρ=some obs->
  ∃eh:List Ent,eh.map Ent.key=obs/\(∀y∈eh,∃x∈en,x.nm∈ρ/\y={ x with nm:=y.nm }/\n<=y.nm/\ρ.getD (y.nm-n) 0=x.nm)/\(eh.Pairwise fun y z=>∀b,y.hd b->¬z.hd b)/\(eh.map Ent.nm).Nodup/\
   (∀j,j<ρ.length->∀x∈en,x.nm=ρ.getD j 0->{ x with nm:=n+j }∈eh)/\∀p∈ρ,∃x∈en,x.nm=p
 | [],n,obs,_,hr=>by injection hr with hr;subst hr;exact⟨[],rfl,by simp,by simp,by simp,by simp,by simp⟩
 | p::ρ,n,obs,hn,hr=>by
  simp only[AS.handed]at hr
  split at hr
  ·rename_i ao hao
   split at hr
   ·rename_i l hl
    injection hr with hr;subst hr
    rw[XaQ]at hn
    obtain⟨eh,g1,g2,g3,g4,g5,g6⟩:=Qd0 h ρ (n+1) l hn.2 hl
    obtain⟨x,hx,hxn,hxa⟩:=h.ent hao
    refine⟨{ x with nm:=n }::eh,by simp[Ent.key,hxa,<-g1],?_,?_,?_,?_,?_⟩
    ·intro y hy
     rcases Xai.1 hy with rfl|hy
     ·exact⟨x,hx,by simp[hxn],rfl,Nat.le_refl _,by simp[hxn]⟩
     ·obtain⟨z,k1,k2,k3,k4,k5⟩:=g2 y hy
      have e:y.nm-n=(y.nm-(n+1))+1:=by omega
      exact⟨z,k1,Xad _ k2,k3,by omega,by rw[e];exact k5⟩
    ·rw[Xau]
     refine⟨fun y hy b hb=>?_,g3⟩
     obtain⟨z,k1,k2,k3,_⟩:=g2 y hy
     rw[k3]
     exact h.mem.hd_ne hx k1 (fun e0=>hn.1 (by rw[<-hxn,e0];exact k2)) hb
    ·simp only[Xas,XaQ]
     refine⟨fun hm=>?_,g4⟩
     obtain⟨y,hy,e0⟩:=Xaf.1 hm
     obtain⟨_,_,_,_,k,_⟩:=g2 y hy
     omega
    ·intro j hj y hy hyn
     cases j with
     | zero=>
      simp only[XbN]at hyn
      have:=h.mem.ent_unique hx hy (hxn.trans hyn.symm)
      subst this
      exact Xaa
     | succ j=>
      simp only[Xch]at hyn
      have:=g5 j (by simpa using hj) y hy hyn
      rw[show n+(j+1)=n+1+j by omega]
      exact Xad _ this
    ·intro q hq
     rcases Xai.1 hq with rfl|hq
     ·exact⟨x,hx,hxn⟩
     ·exact g6 q hq
   ·cases hr
  ·cases hr
section
variable {w:World} {en eh:List Ent} {I I':Nat->Prop} {ρ:List Nat}
mutual
theorem AV.shows_hand(hI:∀b,I b->I' b)(he:∀j,j<ρ.length->∀x∈en,x.nm=ρ.getD j 0->{ x with nm:=1000000+j }∈eh) :
  ∀(x y:AV) (u:Value),x.handB ρ=some y->x.shows w en I u->y.shows w eh I' u
 | .d x,y,u,hy,h=>by
  injection hy with hy;subst hy
  obtain⟨F,h1,h2⟩:=h
  exact⟨F,h1,fun b hb=>hI b (h2 b hb)⟩
 | .nil,y,u,hy,h=>by injection hy with hy;subst hy;exact h
 | .row p,y,u,hy,h=>by
  simp only[AV.handB]at hy
  split at hy
  ·rename_i k hk
   injection hy with hy;subst hy
   obtain⟨x,hx,rfl,h1,h2⟩:=h
   obtain⟨k1,k2,k3⟩:=Xu hk
   have:=he _ k2 x hx k3.symm
   rw[show 1000000+(k-1000000)=k by omega]at this
   exact⟨_,this,rfl,h1,h2⟩
  ·cases hy
 | .ptr p o,y,u,hy,h=>by
  simp only[AV.handB]at hy
  split at hy
  ·rename_i k hk
   injection hy with hy;subst hy
   obtain⟨x,hx,rfl,h1,g,h2,h3⟩:=h
   obtain⟨k1,k2,k3⟩:=Xu hk
   have:=he _ k2 x hx k3.symm
   rw[show 1000000+(k-1000000)=k by omega]at this
   exact⟨_,this,rfl,h1,g,h2,h3⟩
  ·cases hy
 | .agg xs,y,u,hy,h=>by
  simp only[AV.handB]at hy
  split at hy
  ·rename_i ys hys
   injection hy with hy;subst hy
   obtain⟨us,h1,h2⟩:=h
   exact⟨us,h1,ZY hI he xs ys us hys h2⟩
  ·cases hy
 | .any,_,_,hy,_=>by cases hy
 | .pr _ _ _,_,_,hy,_=>by cases hy
 | .pd e off,y,u,hy,h=>by
  injection hy with hy;subst hy
  obtain⟨b,o,us,F,h1,h2,h3,h4,h5⟩:=h
  exact⟨b,o,us,F,h1,h2,h3,hI b h4,fun c hc=>hI c (h5 c hc)⟩
 | .tup _,_,_,hy,_=>by cases hy
 | .sub _ _ _,_,_,hy,_=>by cases hy
 | .clo g xs,y,u,hy,h=>by
  simp only[AV.handB]at hy
  split at hy
  ·rename_i ys hys
   injection hy with hy;subst hy
   obtain⟨us,h1,h2⟩:=h
   exact⟨us,h1,ZY hI he xs ys us hys h2⟩
  ·cases hy
theorem ZY(hI:∀b,I b->I' b)(he:∀j,j<ρ.length->∀x∈en,x.nm=ρ.getD j 0->{ x with nm:=1000000+j }∈eh) :
  ∀(xs ys:List AV) (us:List Value),Qfu ρ xs=some ys->Qn w en I xs us->Qn w eh I' ys us
 | [],ys,us,hy,h=>by injection hy with hy;subst hy;exact h
 | x::xs,ys,us,hy,h=>by
  simp only[Qfu]at hy
  split at hy
  ·rename_i y hy1
   split at hy
   ·rename_i ys' hys
    injection hy with hy;subst hy
    obtain⟨u,us',rfl,h1,h2⟩:=h
    exact⟨u,us',rfl,AV.shows_hand hI he x y u hy1 h1,ZY hI he xs ys' us' hys h2⟩
   ·cases hy
  ·cases hy
end
end
theorem QaJ{X:Cx}{σ:AS}{a:Act}{w:World}{en eh:List Ent}{I':Nat->Prop}{ρ:List Nat}(h:J2 X σ a w en)(hI:∀b,IM X en w b->I' b)(he:∀j,j<ρ.length->∀x∈en,x.nm=ρ.getD j 0->{ x with nm:=1000000+j }∈eh) :
  ∀{xs:List Operand} {ys:List AV},σ.handA ρ xs=some ys->Qn w eh I' ys (xs.map a.eval)
 | [],ys,hx=>by injection hx with hx;subst hx;rfl
 | x::xs,ys,hx=>by
  simp only[AS.handA]at hx
  split at hx
  ·rename_i y hy
   split at hx
   ·rename_i zs hzs
    injection hx with hx;subst hx
    exact⟨_,_,rfl,AV.shows_hand hI he _ _ _ hy (AS.ev_shows h x),QaJ h hI he hzs⟩
   ·cases hx
  ·cases hx

def JJ(t:Nat)(ρ:List Nat)(n:Nat):Nat:=bif fre0 n then JA t n else ρ.getD (n-1000000) 0
mutual
def AV.mapN(γ:Nat->Nat):AV->AV
 | .row i=>.row (γ i)
 | .agg xs=>.agg (Qcd γ xs)
 | .tup xs=>.tup (Qcd γ xs)
 | .clo g xs=>.clo g (Qcd γ xs)
 | .sub o i j=>.sub (γ o) i j
 | .any=>.any
 | .d x=>.d x
 | .nil=>.nil
 | .ptr o i=>.ptr (γ o) i
 | .pr o i j=>.pr (γ o) i j
 | .pd e i=>.pd e i
def Qcd(γ:Nat->Nat):List AV->List AV
 | []=>[]
 | x::xs=>x.mapN γ::Qcd γ xs
end
section
variable {w:World} {en en':List Ent} {I I':Nat->Prop} {γ:Nat->Nat}
mutual
theorem AV.shows_mapN(hI:∀b,I b->I' b)(he:∀x∈en,∃y∈en',y.nm=γ x.nm/\y.val=x.val/\y.ao.isRow=x.ao.isRow/\y.ao.lens=x.ao.lens):∀(x:AV) (u:Value),x.shows w en I u->(x.mapN γ).shows w en' I' u
 | .any,_,_=>trivial
 | .d x,u,h=>by
  obtain⟨F,h1,h2⟩:=h
  exact⟨F,h1,fun b hb=>hI b (h2 b hb)⟩
 | .nil,_,h=>h
 | .row o,u,h=>by
  obtain⟨x,hx,rfl,h1,h2⟩:=h
  obtain⟨y,hy,g1,g2,g3,g4⟩:=he x hx
  exact⟨y,hy,g1,by rw[g3];exact h1,by rw[g2];exact h2⟩
 | .ptr o off,u,h=>by
  obtain⟨x,hx,rfl,h1,g,h2,h3⟩:=h
  obtain⟨y,hy,g1,g2,g3,g4⟩:=he x hx
  exact⟨y,hy,g1,by rw[g3];exact h1,g,by rw[g2];exact h2,h3⟩
 | .pr o i off,u,h=>by
  obtain⟨x,hx,rfl,h1,g,z,h2,h3,h4,h5⟩:=h
  obtain⟨y,hy,g1,g2,g3,g4⟩:=he x hx
  exact⟨y,hy,g1,by rw[g3];exact h1,g,z,by rw[g2];exact h2,by rw[g4];exact h3,by rw[g4];exact h4,h5⟩
 | .pd e off,u,h=>by
  obtain⟨b,o,us,F,h1,h2,h3,h4,h5⟩:=h
  exact⟨b,o,us,F,h1,h2,h3,hI b h4,fun c hc=>hI c (h5 c hc)⟩
 | .agg xs,u,h=>by
  obtain⟨us,h1,h2⟩:=h
  exact⟨us,h1,WL hI he xs us h2⟩
 | .tup xs,u,h=>by
  obtain⟨us,h1,h2⟩:=h
  exact⟨us,h1,WL hI he xs us h2⟩
 | .clo g xs,u,h=>by
  obtain⟨us,h1,h2⟩:=h
  exact⟨us,h1,WL hI he xs us h2⟩
 | .sub o i j,u,h=>by
  obtain⟨x,hx,rfl,h1,h2,A,n,c,z,h3,h4,h5⟩:=h
  obtain⟨y,hy,g1,g2,g3,g4⟩:=he x hx
  exact⟨y,hy,g1,by rw[g3];exact h1,by rw[g4];exact h2,A,n,c,z,by rw[g2];exact h3,by rw[g4];exact h4,h5⟩
theorem WL(hI:∀b,I b->I' b)(he:∀x∈en,∃y∈en',y.nm=γ x.nm/\y.val=x.val/\y.ao.isRow=x.ao.isRow/\y.ao.lens=x.ao.lens):∀(xs:List AV) (us:List Value),Qn w en I xs us->Qn w en' I' (Qcd γ xs) us
 | [],_,h=>h
 | x::xs,us,h=>by
  obtain⟨u,us',h1,h2,h3⟩:=h
  exact⟨u,us',h1,AV.shows_mapN hI he x u h2,WL hI he xs us' h3⟩
end
end
def Qfn:List Nat->List (Nat×AO)->List (Nat×AO)
 | p::ρ,(_,ao)::l=>(p,ao)::Qfn ρ l
 | _,_=>[]
def inN(ρ:List Nat)(p:Nat):Bool:=ρ.any fun q=>Nat.beq q p
theorem Qkl{ρ:List Nat}{p:Nat}:inN ρ p=true↔p∈ρ:=by
 unfold inN
 rw[XaV]
 exact⟨fun⟨q,h1,h2⟩=>(Qg _ _).1 h2▸h1,fun h=>⟨p,h,(Qg _ _).2 rfl⟩⟩
def Qi2(ρ:List Nat)(ob:List (Nat×AO)):List (Nat×AO):=ob.filter fun y=>!inN ρ y.1
theorem QcM{σ:AS}:∀{ρ:List Nat} {n:Nat} {obs:List (Nat×AO)},σ.handed n ρ=some obs->obs.map Prod.fst=(List.range' n ρ.length)
 | [],n,obs,h=>by injection h with h;subst h;rfl
 | p::ρ,n,obs,h=>by
  simp only[AS.handed]at h
  split at h
  ·split at h
   ·rename_i l hl
    injection h with h;subst h
    simp only[Xas,QcM hl,Xap,List.range'_succ]
   ·cases h
  ·cases h
theorem QiX{t:Nat}{ρ0:List Nat}:∀{ρ:List Nat} {n:Nat} {l:List (Nat×AO)},l.map Prod.fst=List.range' n ρ.length->1000000<=n->(∀j,j<ρ.length->ρ0.getD (n+j-1000000) 0=ρ.getD j 0)->Qfn ρ l=l.map fun y=>(JJ t ρ0 y.1,y.2)
 | [],n,[],_,_,_=>rfl
 | p::ρ,n,(m,ao)::l,h,hn,hg=>by
  simp only[Xas,Xap,List.range'_succ,XbC]at h
  obtain⟨rfl,h⟩:=h
  have h0:=hg 0 (by simp)
  have h1:fre0 m=false:=by unfold fre0;rw[<-XbF,Nat.blt_eq];omega
  simp only[Qfn,Xas,XbC,Xci,and_true]
  refine⟨?_,QiX h (by omega) (fun j hj=>?_)⟩
  ·unfold JJ
   rw[h1]
   exact h0.symm
  ·have:=hg (j+1) (by simpa using hj)
   rw[show m+(j+1)=m+1+j by omega]at this
   exact this
theorem QeA{t:Nat}{ρ:List Nat}:∀{l:List (Nat×AO)},(l.all fun y=>fre0 y.1)=true->Vb t l=l.map fun y=>(JJ t ρ y.1,y.2)
 | [],_=>rfl
 | (n,ao)::l,h=>by
  simp only[XcG,Xac]at h
  have h1:JJ t ρ n=JA t n:=by unfold JJ;rw[h.1];rfl
  rw[Vb,Xas,QeA (ρ:=ρ) h.2,h1]
def QcR(f:Nat->Bool)(t:Nat)(ob:List (Nat×AO)):List (Nat×AO)->Bool
 | []=>true
 | (i,_)::l=>YU f (JA t i) ob&&QcR f t ob l
theorem QeB{f:Nat->Bool}{t:Nat}{ob:List (Nat×AO)}:∀{l:List (Nat×AO)},QcR f t ob l=true->∀y∈l,YU f (JA t y.1) ob=true
 | (i,ao)::l,h,y,hy=>by
  simp only[QcR,Xac]at h
  rcases Xai.1 hy with rfl|hy
  ·exact h.1
  ·exact QeB h.2 y hy
theorem J2.mmerge{X:Cx}{σ:AS}{a:Act}{w w':World}{en eh er:List Ent}{t:Nat}{ρ:List Nat}{obs obs' rob:List (Nat×AO)}{r:AV}{v:Value}(h:J2 X σ a w en)(hρ:ρ.Nodup)(hob:σ.handed 1000000 ρ=some obs)
  (g1:eh.map Ent.key=obs) (g2:∀y∈eh,∃x∈en,x.nm∈ρ/\y={ x with nm:=y.nm }/\1000000<=y.nm/\ρ.getD (y.nm-1000000) 0=x.nm) (g5:∀j,j<ρ.length->∀x∈en,x.nm=ρ.getD j 0->{ x with nm:=1000000+j }∈eh) (g6:∀p∈ρ,∃x∈en,x.nm=p)
  (m:Mem X.P w (ZH (IM X en w) eh) (OH eh) er w') (hk:(er.map Ent.key).Perm (rob++obs')) (hr:r.shows w' er (Imm w (ZH (IM X en w) eh) (OH eh) er w') v) (hsame:QfN obs obs') (hflat:Qa1 obs')
  (hf:QcR X.fre t σ.ob rob=true) (hbx:boxB rob=true) (hr0:(rob.all fun y=>fre0 y.1)=true) (ht:Nat.blt t σ.nt=true):Rel X ⟨σ.nt,(t,r.mapN (JJ t ρ))::σ.sl,Vb t rob++(Qfn ρ obs'++Qi2 ρ σ.ob)⟩ (a.put (some t) v) w':=by
 have m0:=h.mem
 have ai:=(QcK hsame).trans (QcM hob)
 let g:Ent->Ent:=fun y=>{ y with nm:=JJ t ρ y.nm }
 let rest:List Ent:=en.filter fun x=>!inN ρ x.nm
 have d:∀{x:Ent},x∈rest↔x∈en/\x.nm∉ρ:=by
  intro x
  simp only[rest,XaB,Xa6,<-XbF,Qkl]
 have aq:∀y∈en,∀b,y.hd b->b<w.heap.size:=fun y c b hb=>((m0.ok y c).lth hb).1
 have ay:∀b,OH eh b->∃x∈en,x.nm∈ρ/\x.hd b:=fun b ⟨y,c,hb⟩=>by
  obtain⟨x,l,bm,e,_⟩:=g2 y c
  rw[e]at hb
  exact⟨x,l,bm,hb⟩
 have ap:∀y∈obs',fre0 y.1=false/\1000000<=y.1/\y.1-1000000<ρ.length:=fun y c=>by
  have:y.1∈List.range' 1000000 ρ.length:=ai▸Xaf.2 ⟨y,c,rfl⟩
  rw[List.mem_range'_1]at this
  refine⟨by unfold fre0;rw[<-XbF,Nat.blt_eq];omega,this.1,by omega⟩
 -- the callee's entries at the end: new rows,or what was handed
 have aa:∀y∈er,(fre0 y.nm=true/\y.key∈rob/\True/\YU X.fre (JA t y.nm) σ.ob=true)\/(fre0 y.nm=false/\y.key∈obs'/\∃x∈en,x.nm∈ρ/\y.val=x.val/\JJ t ρ y.nm=x.nm):=fun y c=>by
  have hm:=hk.mem_iff.1 (Xaf.2 ⟨y,c,rfl⟩)
  rcases Xag.1 hm with hm|hm
  ·have f:=QeB hf y.key hm
   exact .inl ⟨XaD.1 hr0 y.key hm,hm,trivial,f⟩
  ·obtain⟨k1,k2,k3⟩:fre0 y.nm=false/\1000000<=y.nm/\y.nm-1000000<ρ.length:=ap _ hm
   obtain⟨z,i,a5⟩:=g6 (ρ.getD (y.nm-1000000) 0) (by rw[List.getD_eq_getElem?_getD,List.getElem?_eq_getElem k3];exact Xbm k3)
   have h2:=g5 _ k3 z i a5
   have e1:1000000+(y.nm-1000000)=y.nm:=by omega
   have h3:=m.fix y c k1 _ h2 e1
   refine .inr ⟨k1,hm,z,i,?_,h3,?_⟩
   ·rw[a5,List.getD_eq_getElem?_getD,List.getElem?_eq_getElem k3];exact Xbm k3
   ·unfold JJ
    rw[show fre0 y.nm=false from k1]
    exact a5.symm
 have a0:∀x∈en,x.nm∈ρ->∃y∈er,fre0 y.nm=false/\y.val=x.val/\JJ t ρ y.nm=x.nm/\y.ao.isRow=x.ao.isRow/\y.ao.lens=x.ao.lens:=fun x l af=>by
  obtain⟨j,hj,e⟩:=Xbh af
  have e':x.nm=ρ.getD j 0:=by rw[List.getD_eq_getElem?_getD,List.getElem?_eq_getElem hj,<-e];rfl
  have f:=g5 j hj x l e'
  have h2:((1000000+j,x.ao):Nat×AO)∈obs:=g1▸Xaf.2 ⟨_,f,rfl⟩
  obtain⟨y',am,k1,k2,k3⟩:=QmE hsame h2
  have h3:=hk.mem_iff.2 (Xav rob am)
  obtain⟨y,c,e2⟩:=Xaf.1 h3
  have bc:=(ap _ am).1
  have a1:y.nm=1000000+j:=by have:=congrArg Prod.fst e2;exact this.trans k1
  have bf:y.ao=y'.2:=congrArg Prod.snd e2
  have az:fre0 y.nm=false:=by rw[a1];rw[k1]at bc;exact bc
  have hv:y.val=x.val:=m.fix y c az ⟨1000000+j,x.ao,x.val,x.fs⟩ f a1.symm
  refine⟨y,c,az,hv,?_,by rw[bf];exact k2,by rw[bf];exact k3⟩
  unfold JJ
  rw[az,a1]
  rw[show 1000000+j-1000000=j by omega]
  exact e'.symm
 have u:∀z∈rest,∀b,z.hd b->¬OH eh b:=fun z i b hb hO=>by
  obtain⟨x,l,af,ae⟩:=ay b hO
  rw[d]at i
  exact m0.hd_ne l i.1 (fun e=>i.2 (e▸af)) ae hb
 have bb:∀b,IM X en w b->¬OH eh b:=fun b hb hO=>by
  obtain⟨x,l,_,ae⟩:=ay b hO
  exact hb.2.2 x l ae
 have hS:∀b,IM X en w b->Same w w' b:=fun b hb=>m.old b hb.2.1 (bb b hb)
 have av:∀b,OH eh b->Frs X.w0 X.O b:=fun b hO=>by
  obtain⟨x,l,_,hb⟩:=ay b hO
  exact((m0.ok x l).lth hb).2
 have aw:∀b,Frs w (OH eh) b->Frs X.w0 X.O b:=fun b hb=>by
  rcases hb with hb|hb
  ·exact av b hb
  ·exact .inr (Xam m0.size hb)
 have ba:∀b,IM X en w b->Imm X.w0 X.Z X.O (er.map g++rest) w' b:=fun b hb=>⟨hb.1,XaO hb.2.1 m.size,fun y c=>by
  rcases Xag.1 c with c|c
  ·obtain⟨z,i,rfl⟩:=Xaf.1 c
   intro e
   rcases((m.ok z i).lth (x:=z) e).2 with f|f
   ·exact bb b hb f
   ·have:=hb.2.1
    omega
  ·exact hb.2.2 y (d.1 c).1⟩
 have ax:∀b,Imm w (ZH (IM X en w) eh) (OH eh) er w' b->Imm X.w0 X.Z X.O (er.map g++rest) w' b:=fun b hb=>by
  refine⟨?_,hb.2.1,fun y c=>?_⟩
  ·rcases hb.1 with f|f|f
   ·exact(show IM X en w b from f).1
   ·exact .inr (av b f)
   ·exact .inr (.inr (Xam m0.size f))
  ·rcases Xag.1 c with c|c
   ·obtain⟨z,i,rfl⟩:=Xaf.1 c
    exact hb.2.2 z i
   ·intro e
    have h2:=aq y (d.1 c).1 b e
    rcases hb.1 with f|f|f
    ·exact(show IM X en w b from f).2.2 y (d.1 c).1 e
    ·exact u y c b e f
    ·omega
 have hL:∀x∈en,∃y∈er.map g++rest,Like x y:=fun x l=>by
  by_cases af:x.nm∈ρ
  ·obtain⟨y,c,_,k2,k3,k4,k5⟩:=a0 x l af
   exact⟨g y,Xat _ (Xaf.2 ⟨y,c,rfl⟩),k3,k2,k4,k5⟩
  ·exact⟨x,Xav _ (d.2 ⟨l,af⟩),rfl,rfl,rfl,rfl⟩
 have bd:∀x∈er,∀y∈er,JJ t ρ x.nm=JJ t ρ y.nm->x.nm=y.nm:=fun x l y c e=>by
  have ah:∀x∈er,∀y∈er,fre0 x.nm=true->YU X.fre (JA t x.nm) σ.ob=true->(∃z∈en,z.nm∈ρ/\JJ t ρ y.nm=z.nm)->JJ t ρ x.nm=JJ t ρ y.nm->False:=fun x _ y _ k1 k2 ⟨z,i,_,k3⟩ e=>by
   have h3:=(Q9 k2).1
   have:hasN (JA t x.nm) σ.ob=true:=Ji.2 ⟨z.key,h.ob.mem_iff.1 (Xaf.2 ⟨z,i,rfl⟩),by
    have:JJ t ρ x.nm=JA t x.nm:=by unfold JJ;rw[k1];rfl
    rw[<-this,e,k3];rfl⟩
   rw[h3]at this;cases this
  rcases aa x l with ⟨k1,_,_,k2⟩|⟨k1,k2,z,i,hzρ,k3,k4⟩ <;> rcases aa y c with ⟨l1,_,_,l2⟩|⟨l1,l2,q,hq,hqρ,l3,l4⟩
  ·unfold JJ at e
   rw[k1,l1]at e
   exact QfD e
  ·exact(ah x l y c k1 k2 ⟨q,hq,hqρ,l4⟩ e).elim
  ·exact(ah y c x l l1 l2 ⟨z,i,hzρ,k4⟩ e.symm).elim
  ·obtain⟨_,a2,a3⟩:=ap _ k2
   obtain⟨_,b2,b3⟩:=ap _ l2
   have bt:1000000<=x.nm:=a2
   have a7:x.nm-1000000<ρ.length:=a3
   have bw:1000000<=y.nm:=b2
   have a8:y.nm-1000000<ρ.length:=b3
   unfold JJ at e
   rw[k1,l1]at e
   simp only[cond_false,List.getD_eq_getElem?_getD,List.getElem?_eq_getElem a7,List.getElem?_eq_getElem a8,XaJ]at e
   have:=(XcK (h₀:=a7) (h₁:=a8) hρ).1 e
   omega
 have be:Mem X.P X.w0 X.Z X.O (er.map g++rest) w':=by
  refine⟨m.os.trans m0.os,m.tape.trans m0.tape,m.output.trans m0.output,Xam m0.size m.size,fun b hb hO=>(m.old b (XaO hb m0.size) fun hO'=>?_).trans (m0.old b hb hO),?_,?_,?_,?_,fun y c=>?_⟩
  ·rcases av b hO' with f|f
   ·exact hO f
   ·omega
  ·rw[XaG,Xbg]
   refine⟨?_,Xbw (XbI _ XaC) m0.names,?_⟩
   ·rw[XaR]
    have h3:=m.names
    unfold List.Nodup at h3 ⊢
    rw[Xbn]at h3 ⊢
    exact h3.imp_of_mem fun l c hxy e=>hxy (bd _ l _ c e)
   ·intro n hn n' bl e
    subst e
    obtain⟨y,c,e1⟩:=Xaf.1 hn
    obtain⟨z,i,rfl⟩:=Xaf.1 c
    obtain⟨q,hq,e2⟩:=Xaf.1 bl
    rw[d]at hq
    have e3:JJ t ρ z.nm=q.nm:=e1.trans e2.symm
    rcases aa z i with ⟨k1,_,_,k2⟩|⟨_,_,x,l,af,_,k4⟩
    ·have h3:=(Q9 k2).1
     have:hasN (JA t z.nm) σ.ob=true:=Ji.2 ⟨q.key,h.ob.mem_iff.1 (Xaf.2 ⟨q,hq.1,rfl⟩),by
      have:JJ t ρ z.nm=JA t z.nm:=by unfold JJ;rw[k1];rfl
      rw[<-this,e3];rfl⟩
     rw[h3]at this;cases this
    ·exact hq.2 (by rw[<-e3,k4];exact af)
  ·rw[Xbk]
   refine⟨XaX _ (fun x y hxy=>hxy) m.blks,Xa1 XaC m0.blks,fun y c z i b hb ae=>?_⟩
   obtain⟨q,hq,rfl⟩:=Xaf.1 c
   have a4:=d.1 i
   rcases((m.ok q hq).lth (x:=q) hb).2 with f|f
   ·exact u z i b ae f
   ·have h2:=aq z a4.1 b ae
    omega
  ·intro y c
   rcases Xag.1 c with c|c
   ·obtain⟨z,i,rfl⟩:=Xaf.1 c
    have ar:=m.ok z i
    unfold EntOk at ar
    split at ar
    ·rename_i e es dp ak
     obtain⟨s,us,k0,k1,k2,k3,k4,k5,k6,k7⟩:=ar
     unfold EntOk
     simp only[g,ak]
     exact⟨s,us,k0,k1,k2,k3,k4,fun hd b hb=>ax b (k5 hd b hb),fun q hq=>aw q (k6 q hq),fun hd=>⟨(k7 hd).1,fun b hb=>⟨aw b ((k7 hd).2.1 b hb).1,((k7 hd).2.1 b hb).2⟩,(k7 hd).2.2⟩⟩
    ·rename_i e cs ak
     obtain⟨k0,q,bj,k1,k2,k3,k4⟩:=ar
     have hc:okpL (fun _=>false) cs=true:=by
      rcases aa z i with ⟨_,k,_,_⟩|⟨_,k,_⟩
      ·exact Qbs hbx (n:=z.nm) (e:=e) (by rw[<-ak];exact k)
      ·exact Zq hflat (n:=z.nm) (e:=e) (by rw[<-ak];exact k)
     unfold EntOk
     simp only[g,ak]
     exact⟨k0,q,bj,k1,aw q k2,k3,Xc (Xaj _) (fun _ _=>rfl) ax hc k4⟩
   ·have am:=d.1 c
    have h3:=(m0.ok y am.1).mono (p:=fun _=>true) (w':=w') (en':=er.map g++rest) (I':=IM X (er.map g++rest) w') (Fr':=Frs X.w0 X.O) m.size hS ba (fun _ hb=>hb) (fun b hb=>m.old b (aq y am.1 b hb) (u y c b hb)) (fun x l _=>hL x l)
    have e:y.cut (fun _=>true)=y:=by cases y;simp[Ent.cut,AO.cut_true]
    rwa [e]at h3
  ·rw[Xbk]
   refine⟨XaX _ (fun x y hxy=>hxy) m.apart,Xa1 XaC m0.apart,fun y c z i hdy hdz b hb ae=>?_⟩
   obtain⟨q,hq,rfl⟩:=Xaf.1 c
   have a4:=d.1 i
   have bg:z.hd b:=.inr ⟨hdz,ae⟩
   rcases((m.ok q hq).lth (x:=q) (.inr ⟨hdy,hb⟩)).2 with f|f
   ·exact u z i b bg f
   ·have:=aq z a4.1 b bg;omega
  ·rcases Xag.1 c with c|c
   ·obtain⟨z,i,rfl⟩:=Xaf.1 c
    rcases aa z i with ⟨k1,_,_,k2⟩|⟨_,_,x,l,_,k3,k4⟩
    ·have:JJ t ρ z.nm=JA t z.nm:=by unfold JJ;rw[k1];rfl
     show X.Z.fx (JJ t ρ z.nm) z.val
     rw[this]
     exact X.Z.lo _ _ (Q9 k2).2
    ·show X.Z.fx (JJ t ρ z.nm) z.val
     rw[k4,k3]
     exact m0.fix x l
   ·exact m0.fix y (d.1 c).1
 have h2:J2 X ⟨σ.nt,σ.sl,Vb t rob++(Qfn ρ obs'++Qi2 ρ σ.ob)⟩ a w' (er.map g++rest):=by
  refine⟨be,?_,h.defers,h.size,fun s=>AV.shows_mono m.size hS ba hL (h.slots s)⟩
  rw[XaG,<-Xao]
  have e1:Vb t rob++Qfn ρ obs'=(rob++obs').map fun y=>(JJ t ρ y.1,y.2):=by
   rw[XaG,QeA (ρ:=ρ) hr0,QiX (t:=t) (ρ0:=ρ) ai (Xaj _) (fun j hj=>by rw[show 1000000+j-1000000=j by omega])]
  have e2:(er.map g).map Ent.key=(er.map Ent.key).map fun y=>(JJ t ρ y.1,y.2):=by simp only[XaR];rfl
  have e3:rest.map Ent.key=Qi2 ρ (en.map Ent.key):=by
   simp only[rest,Qi2,XbQ]
   rfl
  rw[e1,e2,e3]
  exact XcJ (hk.map _) (h.ob.filter _)
 exact⟨_,h2.put (AV.shows_mapN ax (fun x l=>⟨g x,Xat _ (Xaf.2 ⟨x,l,rfl⟩),rfl,rfl,rfl,rfl⟩) r v hr) ht⟩
section
variable {X:Cx} {σ:AS} {o:Oper} {K:AS->Prop} {t:Nat}
theorem QfY{ι:Type}{f:FuncId}{xs:List AV}{obs:List (Nat×AO)}{ok:ι->Prop}{rs:ι->List AV}{obs' rob:ι->List (Nat×AO)}(ρ:List Nat)(hc:MCalls X.P f xs obs ok rs obs' rob)
  (hx:∀a w en,J2 X σ a w en->∃us:List Value,(execOp a.eval o).run X.P w=(callFunc f us.toArray).run X.P w/\∀(eh:List Ent) (I':Nat->Prop),(∀b,IM X en w b->I' b)->(∀j,j<ρ.length->∀x∈en,x.nm=ρ.getD j 0->{ x with nm:=1000000+j }∈eh)->Qn w eh I' xs us)
  (hd:o.dst=some t) (hob:σ.handed 1000000 ρ=some obs) (hn:YZ ρ=true)
  (hf:∀i,ok i->(QcR X.fre t σ.ob (rob i)&&(rob i).all fun y=>fre0 y.1)=true) (ht:Nat.blt t σ.nt=true)
  (hK:∀i,ok i->K ⟨σ.nt,(t,(one (rs i)).mapN (JJ t ρ))::σ.sl,Vb t (rob i)++(Qfn ρ (obs' i)++Qi2 ρ σ.ob)⟩):OpOk X o σ K:=by
 intro a w hr next Q ag
 obtain⟨en,h⟩:=hr
 have m0:=h.mem
 have hρ:=Wc hn
 obtain⟨eh,g1,g2,g3,g4,g5,g6⟩:=Qd0 h ρ 1000000 obs hρ hob
 obtain⟨⟨af,al⟩,r⟩:=hc
 have g:∀b,IM X en w b->Imm w (ZH (IM X en w) eh) (OH eh) eh w b:=fun b hb=>⟨.inl hb,hb.2.1,fun y hy e=>by
  obtain⟨x,hx,_,e',_⟩:=g2 y hy
  rw[e']at e
  exact hb.2.2 x hx e⟩
 have hm:Mem X.P w (ZH (IM X en w) eh) (OH eh) eh w:=by
  refine⟨rfl,rfl,rfl,Xaj _,fun _ _ _=>rfl,g4,g3,fun y hy=>?_,?_,fun y hy _ x hx e=>?_⟩
  ·obtain⟨x,hx,_,e,_⟩:=g2 y hy
   have u:y.key∈obs:=g1▸Xaf.2 ⟨y,hy,rfl⟩
   have l:y.ao=x.ao:=by rw[e]
   have c:x.fs=y.fs:=by rw[e]
   have d:y.val=x.val:=by rw[e]
   have p:=m0.ok x hx
   unfold EntOk at p
   split at p
   ·rename_i e1 es dp k
    obtain⟨z,us,k0,k1,k2,k3,k4,k5,k6,k7⟩:=p
    unfold EntOk
    rw[l,k]
    refine⟨z,us,k0,k1,by rw[d];exact k2,k3,by rw[<-c];exact k4,fun hd b hb=>g b (k5 hd b (by rw[c];exact hb)),fun b hb=>.inl ⟨y,hy,.inl hb⟩,fun hd=>⟨by rw[<-c];exact(k7 hd).1,fun b hb=>⟨.inl ⟨y,hy,.inr ⟨by rw[l,k];exact hd,hb⟩⟩,?_⟩,(k7 hd).2.2⟩⟩
    ·rw[<-c]at hb
     rw[d]
     exact((k7 hd).2.1 b hb).2
   ·rename_i e1 cs k
    obtain⟨k0,q,ac,k1,k2,k3,k4⟩:=p
    have hc:okpL (fun _=>false) cs=true:=Zq af (n:=y.nm) (e:=e1) (by rw[<-k,<-l];exact u)
    unfold EntOk
    rw[l,k]
    refine⟨by rw[<-c];exact k0,q,ac,by rw[d];exact k1,.inl ⟨y,hy,.inl (by rw[d,k1];rfl)⟩,k3,Xc (Xaj _) (fun _ _=>rfl) g hc k4⟩
  ·exact g3.imp fun h hx hy b hb hb'=>h b (.inr ⟨hx,hb⟩) (.inr ⟨hy,hb'⟩)
  ·rw[Qeb g4 hx hy e]
 obtain⟨us,aa,ak⟩:=hx a w en h
 obtain⟨h2,h3⟩:=r w (IM X en w) eh us hm g1 (ak eh _ g g5)
 unfold Oper.wp
 rw[aa,h2,Oper.upon_enter]
 refine h3.mono fun e w' ⟨i,v,er,⟨hi,hbx⟩,he,m,hk,hr⟩=>?_
 subst he
 rw[hd]
 obtain⟨ai,aj⟩:=al i hi
 have s:=hf i hi
 rw[Xac]at s
 exact ag _ _ _ (hK i hi) (h.mmerge hρ hob g1 g2 g5 g6 m hk hr ai aj s.1 hbx s.2 ht)
theorem QlP{ι:Type}{f:FuncId}{as:Array Operand}{ats:Array TypeId}{xs:List AV}{obs:List (Nat×AO)}{ok:ι->Prop}{rs:ι->List AV}{obs' rob:ι->List (Nat×AO)}(ρ:List Nat)(hc:MCalls X.P f xs obs ok rs obs' rob)
  (ho:o.op=.call { callee:=.value (.func f),args:=as,argTypes:=ats }) (hd:o.dst=some t) (hx:σ.handA ρ as.toList=some xs) (hob:σ.handed 1000000 ρ=some obs) (hn:YZ ρ=true)
  (hf:∀i,ok i->(QcR X.fre t σ.ob (rob i)&&(rob i).all fun y=>fre0 y.1)=true) (ht:Nat.blt t σ.nt=true)
  (hK:∀i,ok i->K ⟨σ.nt,(t,(one (rs i)).mapN (JJ t ρ))::σ.sl,Vb t (rob i)++(Qfn ρ (obs' i)++Qi2 ρ σ.ob)⟩):OpOk X o σ K:=
 QfY ρ hc (fun a w _ h=>⟨_,Wq ho a w,fun _ _ hI he=>QaJ h hI he hx⟩) hd hob hn hf ht hK
end
end
section
section
variable {X:Cx} {σ:AS} {o:Oper} {K:AS->Prop} {t:Nat}
end
theorem Qcq{P:Program}{w:World}(t u ty e:TypeId)(i:TypeInfo)(ht:P.underlying t=some (.slice e))(hu:P.underlying u=some .string)(hi:P.info? e=some i)(hz:i.zero=some (.int .u8 0))(hsize:i.size=1)(hby:i.bytes=1)
  (v:Value) (n:Nat) (xs:List Value) (hown:w.ownsRow 0 e 1 v n xs) (s:ByteArray) (h63:n+s.size<=1099511627776) :
  ∃v' w',(Builtin.append_ #[t,u] ty #[v,.string s]).run P w=.ok v' w'/\w'.ownsRow 0 e 1 v' (n+s.size) (xs++Lib.strCells s)/\w.grownBy w' v.ownBlock/\∀b,blk v'=some b->w.heap.size<=b\/blk v=some b:=by
 have d:n+s.size<=maxLen:=by unfold maxLen;omega
 rcases hown.2 with ⟨hv,hn⟩|⟨g,cap,cur,hv,hbg,hg,hnc,hcm,hcs,htake⟩
 ·subst hv;subst hn
  have m:xs=[]:=Xaz (by rw[hown.1,Xbo])
  subst m
  obtain⟨v',w',k,l,p,q⟩:=Lib.run_append_own_string (P:=P) w w.heap.size t u ty e i ht hu hi hz hsize hby (.slice none 0 0) 0 [] (World.ownsRow_nil w w.heap.size e 1) s d (by omega) (Xaj _)
  refine⟨v',w',k,⟨l.1,?_⟩,p,fun b hb=>?_⟩
  ·rcases l.2 with h|⟨g,cap,cur,a1,a2,a3,a4⟩
   ·exact .inl h
   ·exact .inr ⟨g,cap,cur,a1,Xae _,a3,a4⟩
  ·rcases l.2 with ⟨h,_⟩|⟨g,cap,cur,a1,a2,a3,a4⟩
   ·rw[h]at hb;cases hb
   ·rw[a1]at hb
    simp only[blk,Xak]at hb
    subst hb
    exact .inl a2
 ·obtain⟨v',w',k,l,p,q⟩:=Lib.run_append_own_string (P:=P) w 0 t u ty e i ht hu hi hz hsize hby v n xs hown s d (by omega) (Xae _)
  refine⟨v',w',k,l,p,fun b hb=>?_⟩
  subst hv
  by_cases c:n+s.size<=cap
  ·have f:=Lib.run_append_room_string (P:=P) w t u ty e i ht hu hi hsize g n cap cur hg s c (by rw[hcs];omega)
   rw[k]at f
   injection f with e1 e2
   rw[e1]at hb
   exact .inr hb
  ·have a:∀j u,xs[j]?=some u->w.cell? ((⟨g,0,none⟩:Addr).add j)=some u:=hown.cells (g:=g) rfl
   have f:=Lib.run_append_grow_string (P:=P) w t u ty e i (.int .u8 0) ht hu hi hz ⟨g,0,none⟩ n cap xs (by rw[hsize];exact hown.1) a s (by omega) (by omega) (growslice_fits_wide (by omega) (by rw[hby];omega))
   rw[k]at f
   injection f with e1 e2
   rw[e1]at hb
   simp only[blk,Xak]at hb
   exact .inl (XbU hb)
section
variable {X:Cx} {σ:AS} {o:Oper} {K:AS->Prop} {t:Nat}
end
theorem JT{α:Type}{f:α->List D}{z:Nat}(hf:∀a,(f a).length=z){l l':List α}(h:l.length=l'.length):(l.map f).map List.length=(l'.map f).map List.length:=by
 have e:∀(l:List α),(l.map f).map List.length=List.replicate l.length z:=fun l=>by
  rw[XaR,List.eq_replicate_iff]
  refine⟨by simp,fun n hn=>?_⟩
  obtain⟨a,_,rfl⟩:=Xaf.1 hn
  exact hf a
 rw[e,e,h]
theorem QfP{l l':List UInt8}(h:l.length=l'.length):(QC l).map List.length=(QC l').map List.length:=JT (f:=fun(b:UInt8)=>[D.n .u8 (b.toNat:Int)]) (fun _=>rfl) h
theorem Qrj{α:Type}{f:α->List D}{l:List α}{i j:Nat}:((l.map f).take j).drop i=((l.take j).drop i).map f:=by simp[List.map_take,List.map_drop]
theorem Qj6{α:Type}{f:α->List D}{l:List α}{i j:Nat}(h:j<=l.length):(((l.map f).take j).drop i).length=j-i:=by simp;omega
theorem QpZ{α:Type}{f:α->List D}{l:List α}{i j z:Nat}(h:∀a,(f a).length=z):lenE (((l.map f).take j).drop i) z:=by
 rw[Qrj];exact QmB h
theorem Qn2{α:Type}{f:α->List D}{l:List α}{i j:Nat}(h:∀a,(f a).all D.flat1=true):Wg (((l.map f).take j).drop i)=true:=by
 rw[Qrj];exact QV h
def cpyL{α:Type}(l:List α)(z:α)(i:Nat):List α:=l.take i++List.replicate (l.length-i) z
theorem JV{α:Type}(l:List α)(z:α):cpyL l z 0=List.replicate l.length z:=by simp[cpyL]
theorem Ye{α:Type}(l:List α)(z:α):cpyL l z l.length=l:=by simp[cpyL]
theorem Qt{α:Type}(l:List α)(z:α){i:Nat}(h:i<=l.length):(cpyL l z i).length=l.length:=by simp[cpyL];omega
theorem Yf{α β:Type}[Inhabited α]{f:α->β}{l:List α}{z:α}{i:Nat}(h:i<l.length):((cpyL l z i).map f).set i (f (nth l i))=(cpyL l z (i+1)).map f:=by
 have a:nth l i=l[i]:=by simp[nth,List.getD,h]
 rw[<-XbL,a]
 congr 1
 unfold cpyL
 obtain⟨k,hk⟩:∃k,l.length-i=k+1:=⟨l.length-i-1,by omega⟩
 rw[hk,show l.length-(i+1)=k by omega,List.replicate_succ,XaA h]
 have b:(l.take i).length=i:=by rw[Xah];omega
 rw[XbA _ _ (by omega),b,Xb4,Xbx,Xao]
 rfl
def JQ{α:Type}(g:Nat->α)(n:Nat):List α:=(List.range n).map g
theorem QG{α:Type}(g:Nat->α)(n:Nat):(JQ g n).length=n:=by simp[JQ]
theorem ZF{α:Type}[Inhabited α]{g:Nat->α}{n i:Nat}(h:i<n):nth (JQ g n) i=g i:=by simp[nth,JQ,List.getD,h]
def mkL{α:Type}(g:Nat->α)(l:List α)(i:Nat):List α:=JQ g i++l.drop i
theorem Qau{α:Type}(g:Nat->α)(l:List α):mkL g l l.length=JQ g l.length:=by simp[mkL]
theorem JO{α:Type}(g:Nat->α)(l:List α){i:Nat}(h:i<=l.length):(mkL g l i).length=l.length:=by simp[mkL,JQ];omega
theorem Qay{α β:Type}{f:α->β}{g:Nat->α}{l:List α}{i:Nat}(h:i<l.length):((mkL g l i).map f).set i (f (g i))=(mkL g l (i+1)).map f:=by
 rw[<-XbL]
 congr 1
 unfold mkL
 have a:(JQ g i).length=i:=QG g i
 rw[Xa8 h,XbA _ _ (by omega),a,Xb4,Xbx]
 simp[JQ,List.range_succ]
section
variable {X:Cx} {σ:AS} {o:Oper} {K:AS->Prop} {t:Nat} {p q:Int} {xt yt:TypeId} {x y:Operand}
end
structure Later (p:Prop):Prop where
 go:p
structure RetG {ι:Type} (X:Cx) (fn:Func) (ok:ι->Prop) (rs:ι->List AV) (obs' rob:ι->List (Nat×AO)) (σ:AS) (i:ι) (ρ:List Nat) (vs:List AV):Prop where
 hv:Later (rs i=vs)
 h2:QbY X σ fn.results.toList (QcY ρ vs)
 h3:Qap σ ρ 0 (rob i)
 h4:obLe σ (obs' i)
 h0:Later (ok i)
theorem QyH(x:UInt8) : -9223372036854775808<=(x.toNat:Int)/\(x.toNat:Int)<=9223372036854775807:=by
 have:=x.toNat_lt
 omega
def mvOf(o:Oper):Option Nat:=match o.op with
 | .move (.tmp t)=>some t
 | .assign (.tmp t)=>some t
 | _=>none
theorem QvT{X:Cx}{nt:Nat}{o:Oper}{t d:Nat}{v:AV}(hm:mvOf o=some t)(hd:o.dst=some d)(hdt:Nat.blt d nt=true):LoOk X nt o ⟨[(t,v)],[],[],o.dst,v,[],[]⟩:=by
 rintro s a w ⟨σ,b,c,j⟩ i next Q h
 have f:look σ.sl t=v:=by
  have:=(Jq.1 i.rs) (t,v) Xaa
  rw[<-c]at this
  exact this
 have g:QOk X o σ (fun σ'=>σ'=σ.put d v):=by
  unfold mvOf at hm
  split at hm
  ·rename_i u e
   injection hm with hm
   subst hm
   exact QoT e hd f (by rw[b];exact hdt) rfl
  ·rename_i u e
   injection hm with hm
   subst hm
   exact QhP e hd f (by rw[b];exact hdt) rfl
  ·cases hm
 refine g.ok a w j next Q (fun σ' a' w' hk hr'=>h a' w' ⟨σ',?_,?_,hr'⟩)
 ·rw[hk];exact b
 ·rw[hk,<-c]
  refine Fs.ext ?_ ?_
  ·funext u
   simp only[AS.fs,AS.put,Lo.app,QQ,hd,Xak]
   split
   ·rfl
   ·exact(Qqi _).symm
  ·funext u
   simp only[AS.fs,AS.put,Lo.app,Ql]
   cases Ql σ.ob u with
   | none=>rfl
   | some z=>exact congrArg some (Qs3 z).symm
section
variable {X:Cx} {nt:Nat} {ops:Array Oper} {N:AS->Prop}
theorem XH{o:Oper}{l:List Oper}{acc:List (Nat×List Nat×Lo)}{i t d:Nat}{σ:AS}{v:AV}(hn:σ.nt=nt)(hg:o.guard=none)(hm:mvOf o=some t)(hd:o.dst=some d)(hv:Qan (look σ.sl t) some=some v)(hdt:Nat.blt d σ.nt=true)
  {pr:List Nat} (hpr:V8 (Wf o acc) some=some pr) (hind:(acc.all fun y=>(pr.any fun k=>Nat.beq k y.1)||ind y.2.2 ⟨[(t,v)],[],[],o.dst,v,[],[]⟩)=true) (haf:(o.after.toList.all fun e=>!Region.binds .any e||Nat.blt e.on i)=true)
  {σ':AS} (hnx:Qaf (Qfl σ ⟨[(t,v)],[],[],o.dst,v,[],[]⟩)=some σ') (hK:ChA X nt ops N l ((i,pr,⟨[(t,v)],[],[],o.dst,v,[],[]⟩)::acc) (i+1) σ'):ChA X nt ops N (o::l) acc i σ:=by
 rw[ZD]at hpr
 injection hpr with hpr
 subst hpr
 rw[QbD]at hv
 injection hv with hv
 obtain⟨a,b,_⟩:=Qa9 hnx
 refine⟨⟨[(t,v)],[],[],o.dst,v,[],[]⟩,σ',⟨(QvT hm hd (by rw[<-hn];exact hdt)).g hg,⟨⟨?_,trivial⟩,trivial,trivial⟩⟩,⟨hind,haf⟩,⟨a.trans hn,b.trans (Qdo _ _)⟩,hK⟩
 exact hv
end
end
end Go.Proofs.YtkdniahincpmaaaGreat
