/-
  Regions that draw their order, with operations that make or write memory: one operation by itself, and what stands beside it.
-/
import Derived.Test.YtihgfennoalocaaGreatKB2
import Derived.Lib.AppendStr
set_option maxRecDepth 100000
set_option maxHeartbeats 16000000
namespace Go.Proofs.YtihgfennoalocaaGreat
open Go Go.RowKit
section

@[ext] structure Fs where
 f:Nat->AV
 g:Nat->Option AO
def AS.fs(σ:AS):Fs:=⟨look σ.sl,Qm σ.ob⟩
structure Lo where
 rs:List (Nat×AV)
 ro:List (Nat×AO)
 fr:List Nat
 d:Option Nat
 v:AV
 wo:List (Nat×AO)
 kl:List Nat
def Yi(kl:List Nat)(n:Nat):Bool:=!kl.any fun k=>Nat.beq k n
def allP{α:Type}(p:α->Prop):List α->Prop
 | []=>True
 | x::l=>p x/\allP p l
theorem Jh{α:Type}{p:α->Prop}:∀{l:List α},allP p l↔∀x∈l,p x
 | []=>⟨fun _ x hx=>(by cases hx),fun _=>trivial⟩
 | y::l=>by
  simp only[allP,Jh (l:=l),Xaj,forall_eq_or_imp]
structure Lo.Pre (lo:Lo) (s:Fs):Prop where
 rs:allP (fun y=>s.f y.1=y.2) lo.rs
 ro:allP (fun y=>s.g y.1=some y.2) lo.ro
 fr:allP (fun p=>s.g p=none) lo.fr
def Lo.app(lo:Lo)(s:Fs):Fs where
 f t:=if lo.d=some t then lo.v else(s.f t).cut (Yi lo.kl)
 g p:=match Qm lo.wo p with
  | some ao=>some ao
  | none=>(s.g p).map (AO.cut (Yi lo.kl))
def RelF(X:Cx)(nt:Nat)(s:Fs)(a:Act)(w:World):Prop:=∃σ:AS,σ.nt=nt/\σ.fs=s/\Rel X σ a w
def LoOk(X:Cx)(nt:Nat)(o:Oper)(lo:Lo):Prop:=∀s a w,RelF X nt s a w->lo.Pre s->∀next Q,(∀a' w',RelF X nt (lo.app s) a' w'->next a' w')->o.wp X.P a w next Q

def LoG(X:Cx)(nt:Nat)(ops:Array Oper)(o:Oper)(lo:Lo):Prop:=∀s a w,RelF X nt s a w->lo.Pre s->∀next Q,(∀a' w',RelF X nt (lo.app s) a' w'->next a' w')->
 if Region.wanted o (yielded ops a.tmps)=true then o.wp X.P a w next Q\/(o.asks X.P a w/\LetsOut Q)else next (a.put o.dst undef) w
theorem LoOk.g{X:Cx}{nt:Nat}{ops:Array Oper}{o:Oper}{lo:Lo}(h:LoOk X nt o lo)(hg:o.guard=none):LoG X nt ops o lo:=fun s a w hr hp next Q hn=>by
 simp only[Region.wanted,hg,if_true]
 exact .inl (h s a w hr hp next Q hn)
theorem LoOk.yes{X:Cx}{nt:Nat}{ops:Array Oper}{o:Oper}{lo:Lo}{j d:Nat}{t:Bool}(h:LoOk X nt o lo)(hg:o.guard=some (j,t))(hd:(ops[j]?).bind (·.dst)=some d):LoG X nt ops o { lo with rs:=(d,.d (.b t))::lo.rs }:=fun s a w hr hp next Q hn=>by
 have hp':lo.Pre s:=⟨hp.rs.2,hp.ro,hp.fr⟩
 obtain⟨σ,h1,h2,en,h3⟩:=id hr
 have hv:look σ.sl d=.d (.b t):=by
  have:=hp.rs.1
  rw[<-h2]at this
  exact this
 have hy:yielded ops a.tmps j=some t:=by
  unfold yielded
  rw[hd,Xbd,h3.tmp_some hv]
 simp only[Region.wanted,hg,hy,beq_self_eq_true,if_true]
 exact .inl (h s a w hr hp' next Q hn)
theorem QlT{X:Cx}{nt:Nat}{o:Oper}{s:Fs}{a:Act}{w:World}{l:List (Nat×AV)}(hr:RelF X nt s a w)(ht:∀q,o.dst=some q->Nat.blt q nt=true):RelF X nt (Lo.app ⟨l,[],[],o.dst,.tup [],[],[]⟩ s) (a.put o.dst undef) w:=by
 obtain⟨σ,h1,h2,en,h3⟩:=hr
 cases hd:o.dst with
 | none=>
  refine⟨σ,h1,?_,en,h3⟩
  rw[<-h2]
  refine Fs.ext ?_ ?_
  ·funext u
   simp only[AS.fs,Lo.app,reduceCtorEq,if_false]
   exact(AV.cut_true _).symm
  ·funext u
   simp only[AS.fs,Lo.app,Qm]
   cases Qm σ.ob u with
   | none=>rfl
   | some z=>exact congrArg some (AO.cut_true z).symm
 | some q=>
  refine⟨σ.put q (.tup []),h1,?_,en,h3.put ⟨[],rfl,rfl⟩ (by rw[h1];exact ht q hd)⟩
  rw[<-h2]
  refine Fs.ext ?_ ?_
  ·funext u
   simp only[AS.fs,AS.put,Lo.app,QM,Xal]
   split
   ·rfl
   ·exact(AV.cut_true _).symm
  ·funext u
   simp only[AS.fs,AS.put,Lo.app,Qm]
   cases Qm σ.ob u with
   | none=>rfl
   | some z=>exact congrArg some (AO.cut_true z).symm
theorem Qvp{X:Cx}{nt:Nat}{ops:Array Oper}{o:Oper}{j d:Nat}{t t':Bool}(hg:o.guard=some (j,t))(hd:(ops[j]?).bind (·.dst)=some d)(hne:(t'==t)=false)(ht:∀q,o.dst=some q->Nat.blt q nt=true):LoG X nt ops o ⟨[(d,.d (.b t'))],[],[],o.dst,.tup [],[],[]⟩:=fun s a w hr hp next Q hn=>by
 obtain⟨σ,h1,h2,en,h3⟩:=id hr
 have hv:look σ.sl d=.d (.b t'):=by
  have:=hp.rs.1
  rw[<-h2]at this
  exact this
 have hy:yielded ops a.tmps j=some t':=by
  unfold yielded
  rw[hd,Xbd,h3.tmp_some hv]
 have hne':(some t'==some t)=false:=hne
 simp only[Region.wanted,hg,hy,hne',XaV,if_false]
 exact hn _ _ (QlT hr ht)
theorem QhS{kl:List Nat}{n:Nat}:Yi kl n=true↔n∉kl:=by
 unfold Yi
 rw[Xa6,XcA]
 refine⟨fun h hn=>h n hn ((Qg _ _).2 rfl),fun h k hk e=>h ((Qg _ _).1 e▸hk)⟩
structure LoS (P:Program) (tt:(T:TypeId)->Option (TI P T)) (nt:Nat) (o:Oper) (lo:Lo) (fre:Nat->Bool) (ob':List (Nat×AO)):Prop where
 op:∀(w0:World) (Z:ZV fre) (O:Nat->Prop),OpOk ⟨P,w0,fre,Z,O,tt⟩ o ⟨nt,lo.rs,lo.ro⟩ (fun σ'=>σ'.nt=nt/\(∀d,lo.d=some d->look σ'.sl d=lo.v)/\σ'.ob=ob')
 dst:o.dst=lo.d
 /-- what is read speaks of what is read alone -/
 closed:AS.closed ⟨nt,lo.rs,lo.ro⟩=true
 spl:allP (fun y=>Qm lo.wo y.1=some y.2\/(Qm lo.wo y.1=none/\(Qm lo.ro y.1).map (AO.cut (Yi lo.kl))=some y.2)) ob'
 fre:∀n,hasN n lo.ro=true->fre n=true->n∈lo.kl
 keep:∀n ao,(n,ao)∈lo.ro->n∉lo.kl->∃ao',(n,ao')∈ob'/\((ao.isRow=false/\ao'.isRow=false)\/∃e es es' dp dp',ao=.row e es dp/\ao'=.row e es' dp')
 all:∀n,hasN n lo.ro=true\/hasN n lo.wo=true->hasN n ob'=true
 made:∀n ao,(n,ao)∈ob'->hasN n lo.ro=true\/n∈lo.fr
 flat:∀n e es,(n,AO.row e es true)∈lo.ro->True
theorem Qt1{P:Program}{o:Oper}{a:Act}{w:World}{R:Act->World->Prop}{Q:Exit->Act->World->Prop}(hd:∀a' w',R a' w'->a'.defers=[])(h:o.wp P a w R Q):o.wp P a w (fun a' w'=>R a' w'/\∃u,a'=a.put o.dst u) Q:=by
 unfold Oper.wp at *
 generalize (execOp a.eval o).run P w=r at *
 cases r with
 | ok n w'=>
  cases n <;> simp only[Oper.upon]at h ⊢
  case value v=>exact⟨h,v,rfl⟩
  case skip=>exact⟨h,_,rfl⟩
  case enter f args=>exact Calls.mono h (fun e w'' he=>by cases e <;> first|exact⟨he,_,rfl⟩|exact he)
  case row f args=>exact Rows.mono h (fun _ _ he=>⟨he,_,rfl⟩)
  case defer d=>
   have:=hd _ _ h
   unfold Act.put at this
   split at this <;> cases this
 | halt x w'=>cases x <;> simp only[Oper.upon]at h ⊢ <;> exact h
theorem Qkb{P:Program}{Fr:Nat->Prop}{w:World}{en:List Ent}{I:Nat->Prop}{x:Ent}{e:TypeId}{es:List (List D)}{dp:Bool}(h:EntOk P Fr w en I x)(ha:x.ao=.row e es dp):∃z n,(P.info? e).map (·.size)=some z/\x.ao.lens=List.replicate n z/\∃A c,x.val=.slice A n c:=by
 unfold EntOk at h
 rw[ha]at h
 obtain⟨z,us,k0,k1,k2,k3,_⟩:=h
 obtain⟨A,c,hv,_⟩:=Jx k2
 refine⟨z,es.length,k0,?_,A,c,hv⟩
 rw[ha]
 exact List.eq_replicate_iff.2 ⟨by simp[AO.lens],fun l hl=>by
  obtain⟨el,hel,rfl⟩:=Xad.1 hl
  exact k3 el hel⟩
theorem QbQ{l r:List (Nat×AO)}{p:Nat}:Qm (l++r) p=match Qm l p with
  | some x=>some x
  | none=>Qm r p:=by
 induction l with
 | nil=>rfl
 | cons y l ih=>
  obtain⟨k,x⟩:=y
  rw[Xbz,WO,WO,ih]
  split <;> rfl
theorem YW{l:List (Nat×AO)}{p:Nat}:(Qm l p).isSome=hasN p l:=by
 induction l with
 | nil=>rfl
 | cons y l ih=>
  obtain⟨k,x⟩:=y
  simp only[Qm,hasN]
  cases Nat.beq k p <;> simp[ih]
theorem Xl(q:Nat->Bool)(kp:Nat->Bool):∀(l:List (Nat×AO)) (p:Nat),Qm ((l.filter fun y=>!q y.1).map fun y=>(y.1,y.2.cut kp)) p=if q p=true then none else(Qm l p).map (AO.cut kp)
 | [],p=>by simp[Qm]
 | (k,x)::l,p=>by
  have ih:=Xl q kp l p
  rw[XbH]
  by_cases hk:q k=true
  ·rw[if_neg (by simp[hk]),ih,WO]
   by_cases hq:q p=true
   ·rw[if_pos hq,if_pos hq]
   ·rw[if_neg hq,if_neg hq]
    by_cases e:k=p
    ·subst e;exact absurd hk hq
    ·rw[if_neg e]
  ·rw[if_pos (by simpa using hk),Xaw,WO,ih,WO]
   by_cases e:k=p
   ·subst e
    rw[if_pos rfl,if_neg hk,if_pos rfl]
    rfl
   ·rw[if_neg e,if_neg e]
theorem LoS.ok{X:Cx}{nt:Nat}{o:Oper}{lo:Lo}{fre:Nat->Bool}{ob':List (Nat×AO)}(h:LoS X.P X.tt nt o lo fre ob')(hfre:∀n,n∈lo.kl\/n∈lo.fr->X.fre n=true):LoOk X nt o lo:=by
 intro s a w ⟨σ,hnt,hfs,en,h1⟩ hp next Q hn
 have hrs:∀y∈lo.rs,look σ.sl y.1=y.2:=fun y hy=>by have:=Jh.1 hp.rs y hy;rw[<-hfs]at this;exact this
 have hro:∀y∈lo.ro,Qm σ.ob y.1=some y.2:=fun y hy=>by have:=Jh.1 hp.ro y hy;rw[<-hfs]at this;exact this
 have hfr:∀p∈lo.fr,Qm σ.ob p=none:=fun y hy=>by have:=Jh.1 hp.fr y hy;rw[<-hfs]at this;exact this
 have m:=h1.mem
 have hcl:=h.closed
 have hcl2:=hcl
 simp only[AS.closed,Xaf,XaD]at hcl
 obtain⟨⟨c1,c2⟩,c3⟩:=hcl
 have hsl:∀l:List (Nat×AV),(∀y∈l,look σ.sl y.1=y.2)->slLe σ l:=fun l=>by
  induction l with
  | nil=>intro _;trivial
  | cons y l ih=>intro hy;exact⟨hy y Xaa,ih fun z hz=>hy z (Xae _ hz)⟩
 have hol:∀l:List (Nat×AO),(∀y∈l,Qm σ.ob y.1=some y.2)->obLe σ l:=fun l=>by
  induction l with
  | nil=>intro _;trivial
  | cons y l ih=>intro hy;exact⟨hy y Xaa,ih fun z hz=>hy z (Xae _ hz)⟩
 have hle:=h1.le (τ:=⟨nt,lo.rs,lo.ro⟩) ⟨hnt.symm,hsl _ hrs,hol _ hro,hcl2⟩
 generalize hS:(en.filter fun y=>hasN y.nm lo.ro).map (Ent.cut fun n=>hasN n lo.ro)=enS at hle
 have hmem:∀{y:Ent},y∈enS->∃z∈en,hasN z.nm lo.ro=true/\y=z.cut fun n=>hasN n lo.ro:=by
  intro y hy
  rw[<-hS]at hy
  simp only[Xad,XaF]at hy
  obtain⟨z,⟨k1,k2⟩,rfl⟩:=hy
  exact⟨z,k1,k2,rfl⟩
 have hmem':∀{z:Ent},z∈en->hasN z.nm lo.ro=true->(z.cut fun n=>hasN n lo.ro)∈enS:=by
  intro z hz hzn
  rw[<-hS]
  simp only[Xad,XaF]
  exact⟨z,⟨hz,hzn⟩,rfl⟩
 have hao:∀{x:Ent},x∈en->hasN x.nm lo.ro=true->(x.nm,x.ao)∈lo.ro:=by
  intro x hx hn
  obtain⟨y,hy,e⟩:=Q9.1 hn
  obtain⟨z,hz,e1,e2⟩:=h1.ent (hro y hy)
  have:=m.ent_unique hx hz (e.symm.trans e1.symm)
  subst this
  rw[<-e,e2]
  exact hy
 let O':Nat->Prop:=fun b=>∃x∈en,hasN x.nm lo.ro=true/\x.hd b
 let Z':ZV fre:=⟨IM X en w,fun n v=>fre n=false->∀x∈en,x.nm=n->x.val=v,fun n v e e'=>by rw[e]at e';cases e'⟩
 have hI1:∀b,IM X en w b->Imm w Z' O' enS w b:=fun b hb=>⟨.inl hb,hb.2.1,fun y hy=>by
  obtain⟨z,hz,_,rfl⟩:=hmem hy
  exact fun hq=>hb.2.2 z hz ((Ent.hd_cut _ z b).1 hq)⟩
 have hcutq:∀(x:AV) (u:Value),x.okp (fun n=>hasN n lo.ro)=true->x.shows w en (IM X en w) u->x.shows w enS (Imm w Z' O' enS w) u:=fun x u hx hs=>by
  have:=AV.shows_cut (p:=fun n=>hasN n lo.ro) (en':=enS) (I':=Imm w Z' O' enS w) (Xam _) (fun _ _=>rfl) hI1 (fun x hx hpx=>⟨_,hmem' hx hpx,rfl,rfl,AO.cut_isRow _ x.ao,AO.cut_lens _ x.ao⟩) x u hs
  rwa [AV.cut_ok x hx]at this
 have hRel:JO ⟨X.P,w,fre,Z',O',X.tt⟩ ⟨nt,lo.rs,lo.ro⟩ a w enS:=by
  refine⟨⟨rfl,rfl,rfl,Xam _,fun _ _ _=>rfl,hle.mem.names,hle.mem.blks,fun y hy=>?_,hle.mem.apart,fun y hy=>?_⟩,hle.ob,hle.defers,hle.size,fun t=>?_⟩
  ·obtain⟨z,hz,hzn,rfl⟩:=hmem hy
   have k:=(m.ok z hz).mono (p:=fun n=>hasN n lo.ro) (w':=w) (en':=enS) (I':=Imm w Z' O' enS w) (Fr':=Frs X.w0 X.O) (Xam _) (fun _ _=>rfl) hI1 (fun _ hb=>hb) (fun _ _=>rfl) (fun x hx hpx=>⟨_,hmem' hx hpx,rfl,rfl,AO.cut_isRow _ x.ao,AO.cut_lens _ x.ao⟩)
   have hO:∀b,blk z.val=some b->Frs w O' b:=fun b hb=>.inl ⟨z,hz,hzn,.inl hb⟩
   unfold EntOk at k ⊢
   split at k
   ·rename_i e es dp hac
    obtain⟨q,us,k0,k1,k2,k3,k4,k5,k6,k7⟩:=k
    refine⟨q,us,k0,k1,k2,k3,k4,k5,hO,fun hd=>?_⟩
    have hzd:z.ao.deep=true:=by
     rw[<-AO.cut_deep (fun n=>hasN n lo.ro)]
     show(z.cut _).ao.deep=true
     rw[hac];exact hd
    exact⟨(k7 hd).1,fun b hb=>⟨.inl ⟨z,hz,hzn,.inr ⟨hzd,hb⟩⟩,((k7 hd).2.1 b hb).2⟩,(k7 hd).2.2⟩
   ·rename_i e cs hac
    obtain⟨k0,g,cur,k1,k2,k3,k4⟩:=k
    exact⟨k0,g,cur,k1,hO g (by rw[show z.val=_ from k1];rfl),k3,k4⟩
  ·obtain⟨z,hz,hzn,rfl⟩:=hmem hy
   exact fun _ x hx e=>by rw[m.ent_unique hx hz e];rfl
  ·rcases Qgb (l:=lo.rs) (t:=t)with h3|h3
   ·rw[h3];trivial
   ·have h4:=h1.slots t
    rw[show look σ.sl t=look lo.rs t from hrs _ h3]at h4
    exact hcutq _ _ (c1 _ h3) h4
 have hw:=h.op w Z' O' a w ⟨enS,hRel⟩ (fun a' w'=>∃σ',(σ'.nt=nt/\(∀d,lo.d=some d->look σ'.sl d=lo.v)/\σ'.ob=ob')/\Rel ⟨X.P,w,fre,Z',O',X.tt⟩ σ' a' w') Q (fun σ' a' w' hk hr=>⟨σ',hk,hr⟩)
 have hw2:=Qt1 (fun a' w' ⟨σ',_,en',hr⟩=>hr.defers) hw
 refine Oper.wp_mono (fun a' w' ⟨⟨σ',⟨hnt',hv',hob'⟩,en',h2⟩,u,hu⟩=>hn a' w' ?_) hw2
 have m2:=h2.mem
 have hIO:∀b,IM X en w b->¬O' b:=fun b hb ⟨x,hx,_,hbx⟩=>hb.2.2 x hx hbx
 have hSame:∀b,IM X en w b->Same w w' b:=fun b hb=>m2.old b hb.2.1 (hIO b hb)
 have hblk2:∀y∈en',∀b,y.hd b->O' b\/w.heap.size<=b:=fun y hy b hb=>((m2.ok y hy).lth hb).2
 have hOF:∀b,O' b->Frs X.w0 X.O b/\b<w.heap.size:=fun b ⟨x,hx,_,hb⟩=>⟨((m.ok x hx).lth hb).2,((m.ok x hx).lth hb).1⟩
 let kp:=Yi lo.kl
 let enZ:=en'++(en.filter fun y=>!hasN y.nm lo.ro).map (Ent.cut kp)
 have hfm:∀{y:Ent},y∈(en.filter fun y=>!hasN y.nm lo.ro).map (Ent.cut kp)->∃z∈en,hasN z.nm lo.ro=false/\y=z.cut kp:=by
  intro y hy
  simp only[Xad,XaF,Xa6]at hy
  obtain⟨z,⟨k1,k2⟩,rfl⟩:=hy
  exact⟨z,k1,k2,rfl⟩
 have hfm':∀{z:Ent},z∈en->hasN z.nm lo.ro=false->z.cut kp∈enZ:=by
  intro z hz hzn
  refine Xav _ ?_
  simp only[Xad,XaF,Xa6]
  exact⟨z,⟨hz,hzn⟩,rfl⟩
 -- the frame's blocks are not the operation's
 have hfO:∀z∈en,hasN z.nm lo.ro=false->∀b,z.hd b->¬O' b:=fun z hz hzn b hb ⟨x,hx,hxn,hbx⟩=>m.hd_ne hz hx (fun e=>by rw[e,hxn]at hzn;cases hzn) hb hbx
 have hIM:∀b,IM X en w b->IM X enZ w' b:=fun b hb=>⟨hb.1,XaL hb.2.1 m2.size,fun y hy e=>by
  rcases Xag.1 hy with hy|hy
  ·rcases hblk2 y hy b e with h3|h3
   ·exact hIO b hb h3
   ·have:=hb.2.1;omega
  ·obtain⟨z,hz,_,rfl⟩:=hfm hy
   exact hb.2.2 z hz ((Ent.hd_cut kp z b).1 e)⟩
 have hIM2:∀b,Imm w Z' O' en' w' b->IM X enZ w' b:=fun b hb=>by
  refine⟨?_,hb.2.1,fun y hy e=>?_⟩
  ·rcases hb.1 with h3|h3|h3
   ·exact h3.1
   ·exact .inr (hOF b h3).1
   ·exact .inr (.inr (Xao m.size h3))
  ·rcases Xag.1 hy with hy|hy
   ·exact hb.2.2 y hy e
   ·obtain⟨z,hz,hzn,rfl⟩:=hfm hy
    have e:=(Ent.hd_cut kp z b).1 e
    rcases hb.1 with h3|h3|h3
    ·exact h3.2.2 z hz e
    ·exact hfO z hz hzn b e h3
    ·have:=((m.ok z hz).lth (b:=b) e).1;omega
 have hob2:∀{n:Nat} {ao:AO},(n,ao)∈ob'->∃y∈en',y.nm=n/\y.ao=ao:=by
  intro n ao hin
  rw[<-hob']at hin
  have:=h2.ob.mem_iff.2 hin
  rw[Xad]at this
  obtain⟨y,hy,e⟩:=this
  injection e with e1 e2
  exact⟨y,hy,e1,e2⟩
 have hLike:∀x∈en,kp x.nm=true->∃y∈enZ,Like x y:=fun x hx hk=>by
  have hnk:x.nm∉lo.kl:=QhS.1 hk
  cases hxn:hasN x.nm lo.ro with
  | false=>exact⟨_,hfm' hx hxn,rfl,rfl,AO.cut_isRow kp x.ao,AO.cut_lens kp x.ao⟩
  | true=>
   have hin:=hao hx hxn
   obtain⟨ao',k1,k2⟩:=h.keep _ _ hin hnk
   obtain⟨y,hy,e1,e2⟩:=hob2 k1
   have hff:fre x.nm=false:=by
    cases hf:fre x.nm with
    | false=>rfl
    | true=>exact absurd (h.fre _ hxn hf) hnk
   have hval:x.val=y.val:=m2.fix y hy (by rw[e1];exact hff) x hx e1.symm
   refine⟨y,Xat _ hy,e1,hval.symm,?_,?_⟩
   ·rcases k2 with ⟨k2,k3⟩|⟨e,es,es',dp,dp',k2,k3⟩
    ·rw[k2,e2,k3]
    ·rw[e2,k2,k3];rfl
   ·rcases k2 with ⟨k2,k3⟩|⟨e,es,es',dp,dp',k2,k3⟩
    ·cases hq:x.ao with
     | row=>rw[hq]at k2;cases k2
     | box=>
      rw[e2]
      cases ao' with
      | row=>cases k3
      | box=>rfl
    ·obtain⟨z1,n1,i1,i2,A1,C1,i3⟩:=Qkb (m.ok x hx) k2
     obtain⟨z2,n2,j1,j2,A2,C2,j3⟩:=Qkb (m2.ok y hy) (e2.trans k3)
     rw[i1]at j1
     injection j1 with j1
     rw[i3,j3]at hval
     injection hval with _ hval _
     rw[i2,j2,j1,hval]
 have hMap:∀(x:AV) (q:Value),x.shows w en (IM X en w) q->(x.cut kp).shows w' enZ (IM X enZ w') q:=fun x q hq=>
  AV.shows_cut m2.size hSame hIM hLike x q hq
 have hMap2:∀(x:AV) (q:Value),x.shows w' en' (Imm w Z' O' en' w') q->x.shows w' enZ (IM X enZ w') q:=fun x q hq=>
  AV.shows_mono (Xam _) (fun _ _=>rfl) hIM2 (fun x hx=>⟨x,Xat _ hx,rfl,rfl,rfl,rfl⟩) hq
 have hnm2:∀y∈en',hasN y.nm lo.ro=true\/y.nm∈lo.fr:=fun y hy=>h.made y.nm y.ao (by
  rw[<-hob']
  exact h2.ob.mem_iff.1 (Xad.2 ⟨y,hy,rfl⟩))
 have hmemZ:Mem X.P X.w0 X.Z X.O enZ w':=by
  refine⟨m2.os.trans m.os,m2.tape.trans m.tape,m2.output.trans m.output,Xao m.size m2.size,fun b hb hO=>?_,?_,?_,?_,?_,?_⟩
  ·refine(m2.old b (XaL hb m.size) (fun hO'=>?_)).trans (m.old b hb hO)
   rcases(hOF b hO').1 with h3|h3
   ·exact hO h3
   ·omega
  ·rw[XaI,Xbe]
   refine⟨m2.names,?_,fun n hn1 n' hn2 e=>?_⟩
   ·have:((en.filter fun y=>!hasN y.nm lo.ro).map (Ent.cut kp)).map Ent.nm=(en.filter fun y=>!hasN y.nm lo.ro).map Ent.nm:=by simp only[XaS];rfl
    rw[this]
    exact Xbs (XbF _ XaE) m.names
   ·subst e
    obtain⟨y,hy,e1⟩:=Xad.1 hn1
    obtain⟨q,hq,e2⟩:=Xad.1 hn2
    obtain⟨z,hz,hzn,rfl⟩:=hfm hq
    have e3:z.nm=y.nm:=e2.trans e1.symm
    rcases hnm2 y hy with h3|h3
    ·rw[<-e3,hzn]at h3;cases h3
    ·have h4:=hfr _ h3
     have h5:hasN y.nm σ.ob=true:=Q9.2 ⟨z.key,h1.ob.mem_iff.1 (Xad.2 ⟨z,hz,rfl⟩),e3⟩
     rw[<-YW,h4]at h5
     cases h5
  ·rw[Xbc]
   refine⟨m2.blks,XaW _ (fun x y hxy b h1 h2=>hxy b ((Ent.hd_cut kp x b).1 h1) ((Ent.hd_cut kp y b).1 h2)) (Xa0 XaE m.blks),fun y hy q hq b hb hb'=>?_⟩
   obtain⟨z,hz,hzn,rfl⟩:=hfm hq
   have hb':=(Ent.hd_cut kp z b).1 hb'
   rcases hblk2 y hy b hb with h3|h3
   ·exact hfO z hz hzn b hb' h3
   ·have:=((m.ok z hz).lth (b:=b) hb').1;omega
  ·intro y hy
   rcases Xag.1 hy with hy|hy
   ·have k:=(m2.ok y hy).mono (p:=fun _=>true) (w':=w') (en':=enZ) (I':=IM X enZ w') (Fr':=Frs X.w0 X.O) (Xam _) (fun _ _=>rfl) hIM2
     (fun b hb=>hb.elim (fun h3=>(hOF b h3).1) (fun h3=>.inr (Xao m.size h3))) (fun _ _=>rfl) (fun x hx _=>⟨x,Xat _ hx,rfl,rfl,rfl,rfl⟩)
    have e:y.cut (fun _=>true)=y:=by cases y;simp[Ent.cut,AO.cut_true]
    rwa [e]at k
   ·obtain⟨z,hz,hzn,rfl⟩:=hfm hy
    exact(m.ok z hz).mono m2.size hSame hIM (fun _ hb=>hb) (fun b hb=>m2.old b ((m.ok z hz).lth hb).1 (hfO z hz hzn b hb)) hLike
  ·rw[Xbc]
   refine⟨m2.apart,XaW _ (fun x y hxy h3 h4=>hxy (by rw[<-AO.cut_deep kp];exact h3) (by rw[<-AO.cut_deep kp];exact h4)) (Xa0 XaE m.apart),fun y hy q hq hdy hdq b hb hb'=>?_⟩
   obtain⟨z,hz,hzn,rfl⟩:=hfm hq
   have hzd:z.hd b:=.inr ⟨by rw[<-AO.cut_deep kp];exact hdq,hb'⟩
   rcases hblk2 y hy b (.inr ⟨hdy,hb⟩)with h3|h3
   ·exact hfO z hz hzn b hzd h3
   ·have:=((m.ok z hz).lth hzd).1;omega
  ·intro y hy
   rcases Xag.1 hy with hy|hy
   ·by_cases hxf:X.fre y.nm=true
    ·exact X.Z.lo _ _ hxf
    ·rcases hnm2 y hy with h3|h3
     ·obtain⟨q,hq,e⟩:=Q9.1 h3
      obtain⟨z,hz,e1,e2⟩:=h1.ent (hro q hq)
      have hnk:y.nm∉lo.kl:=fun hk=>hxf (hfre _ (.inl hk))
      have hff:fre y.nm=false:=by
       cases hf:fre y.nm with
       | false=>rfl
       | true=>exact absurd (h.fre _ h3 hf) hnk
      have e3:z.nm=y.nm:=e1.trans e
      have hval:=m2.fix y hy hff z hz e3
      rw[<-hval,<-e3]
      exact m.fix z hz
     ·exact absurd (hfre _ (.inr h3)) hxf
   ·obtain⟨z,hz,_,rfl⟩:=hfm hy
    exact m.fix z hz
 refine⟨⟨nt,(match lo.d with|some d=>(d,lo.v)::cutS kp σ.sl|none=>cutS kp σ.sl),ob'++(σ.ob.filter fun y=>!hasN y.1 lo.ro).map fun y=>(y.1,y.2.cut kp)⟩,rfl,?_,enZ,hmemZ,?_,h2.defers,?_,fun t=>?_⟩
 ·refine Fs.ext ?_ ?_
  ·funext t
   simp only[AS.fs,Lo.app]
   rw[<-hfs]
   simp only[AS.fs]
   cases hd:lo.d with
   | none=>simp only[reduceCtorEq,if_false,Wo];rfl
   | some d=>
    simp only[QM,Xal,Wo]
    rfl
  ·funext p
   simp only[AS.fs,Lo.app]
   rw[<-hfs,QbQ,Xl (fun n=>hasN n lo.ro) kp]
   cases hq:Qm ob' p with
   | some ao=>
    rcases Jh.1 h.spl (p,ao) (Jl hq)with h3|⟨h3,h4⟩
    ·simp only[h3]
    ·simp only[h3,AS.fs]
     cases h5:Qm lo.ro p with
     | none=>rw[h5]at h4;cases h4
     | some a0=>
      rw[h5]at h4
      have h6:Qm σ.ob p=some a0:=hro (p,a0) (Jl h5)
      rw[h6,h4]
   | none=>
    have h3:hasN p ob'=false:=by rw[<-YW,hq];rfl
    have h4:¬hasN p lo.ro=true:=fun e=>by rw[h.all p (.inl e)]at h3;cases h3
    have h5:Qm lo.wo p=none:=by
     cases h6:Qm lo.wo p with
     | none=>rfl
     | some a0=>
      have:hasN p lo.wo=true:=by rw[<-YW,h6];rfl
      rw[h.all p (.inr this)]at h3;cases h3
    simp only[AS.fs,h5]
    rw[if_neg h4]
 ·show(enZ.map Ent.key).Perm _
  rw[XaI]
  refine XcI (by rw[<-hob'];exact h2.ob) ?_
  have e1:((en.filter fun y=>!hasN y.nm lo.ro).map (Ent.cut kp)).map Ent.key=((en.map Ent.key).filter fun y=>!hasN y.1 lo.ro).map fun y=>(y.1,y.2.cut kp):=by
   simp only[XaS,XbO]
   rfl
  rw[e1]
  exact(h1.ob.filter _).map _
 ·rw[h2.size,hnt']
 ·have hbase:∀t,(∀d,lo.d=some d->d≠t)->((look σ.sl t).cut kp).shows w' enZ (IM X enZ w') (a'.tmps.getD t undef):=fun t ht=>by
   have e:a'.tmps.getD t undef=a.tmps.getD t undef:=by
    rw[hu,h.dst]
    cases hd:lo.d with
    | none=>rfl
    | some d=>
     simp only[Act.put,Array.getD_eq_getD_getElem?,Array.getElem?_setIfInBounds_ne (ht d hd)]
   rw[e]
   exact hMap _ _ (h1.slots t)
  cases hd:lo.d with
  | none=>
   simp only[Wo]
   exact hbase t (fun d e=>by rw[hd]at e;cases e)
  | some d=>
   simp only[QM,Wo]
   split
   ·rename_i e
    subst e
    have:=h2.slots d
    rw[hv' d hd]at this
    exact hMap2 _ _ this
   ·rename_i e
    exact hbase t (fun d' e'=>by rw[hd]at e';injection e' with e';rw[<-e'];exact e)

mutual
def AV.full:AV->Bool
 | .any=>false
 | .agg xs=>QiB xs
 | .tup xs=>QiB xs
 | .clo _ xs=>QiB xs
 | _=>true
def QiB:List AV->Bool
 | []=>true
 | x::xs=>x.full&&QiB xs
end
def AO.full:AO->Bool
 | .box _ cs=>QiB cs
 | _=>true
mutual
theorem AV.cut_full(p:Nat->Bool):∀(x:AV),(x.cut p).full=true->x.cut p=x
 | .any,_=>rfl
 | .d _,_=>rfl
 | .nil,_=>rfl
 | .pd _ _,_=>rfl
 | .row o,h=>by
  simp only[AV.cut]at h ⊢
  split
  ·rfl
  ·rename_i hp;rw[if_neg hp]at h;cases h
 | .ptr o _,h=>by
  simp only[AV.cut]at h ⊢
  split
  ·rfl
  ·rename_i hp;rw[if_neg hp]at h;cases h
 | .pr o _ _,h=>by
  simp only[AV.cut]at h ⊢
  split
  ·rfl
  ·rename_i hp;rw[if_neg hp]at h;cases h
 | .agg xs,h=>by simp only[AV.cut,Zq p xs h]
 | .tup xs,h=>by simp only[AV.cut,Zq p xs h]
 | .clo _ xs,h=>by simp only[AV.cut,Zq p xs h]
 | .sub o _ _,h=>by
  simp only[AV.cut]at h ⊢
  split
  ·rfl
  ·rename_i hp;rw[if_neg hp]at h;cases h
theorem Zq(p:Nat->Bool):∀(xs:List AV),QiB (cutL p xs)=true->cutL p xs=xs
 | [],_=>rfl
 | x::xs,h=>by
  simp only[cutL,QiB,Xaf]at h
  simp only[cutL,AV.cut_full p x h.1,Zq p xs h.2]
end
theorem AO.cut_full(p:Nat->Bool)(x:AO)(h:(x.cut p).full=true):x.cut p=x:=by
 cases x with
 | row=>rfl
 | box e cs=>simp only[AO.cut];rw[Zq p cs h]
mutual
theorem AV.cut_cut(p q:Nat->Bool):∀(x:AV),(x.cut p).cut q=x.cut fun n=>p n&&q n
 | .any=>rfl
 | .d _=>rfl
 | .nil=>rfl
 | .pd _ _=>rfl
 | .row o=>by simp only[AV.cut];by_cases hp:p o=true <;> by_cases hq:q o=true <;> simp[AV.cut,hp,hq]
 | .ptr o _=>by simp only[AV.cut];by_cases hp:p o=true <;> by_cases hq:q o=true <;> simp[AV.cut,hp,hq]
 | .pr o _ _=>by simp only[AV.cut];by_cases hp:p o=true <;> by_cases hq:q o=true <;> simp[AV.cut,hp,hq]
 | .agg xs=>by simp only[AV.cut,Qaa p q xs]
 | .tup xs=>by simp only[AV.cut,Qaa p q xs]
 | .clo _ xs=>by simp only[AV.cut,Qaa p q xs]
 | .sub o _ _=>by simp only[AV.cut];by_cases hp:p o=true <;> by_cases hq:q o=true <;> simp[AV.cut,hp,hq]
theorem Qaa(p q:Nat->Bool):∀(xs:List AV),cutL q (cutL p xs)=cutL (fun n=>p n&&q n) xs
 | []=>rfl
 | x::xs=>by simp only[cutL,AV.cut_cut p q x,Qaa p q xs]
end
theorem AV.cut_comm(p q:Nat->Bool)(x:AV):(x.cut p).cut q=(x.cut q).cut p:=by
 rw[AV.cut_cut,AV.cut_cut]
 congr 1
 funext n
 exact Bool.and_comm _ _
theorem AO.cut_comm(p q:Nat->Bool)(x:AO):(x.cut p).cut q=(x.cut q).cut p:=by
 cases x with
 | row=>rfl
 | box e cs=>
  simp only[AO.cut,Qaa]
  congr 2
  funext n
  exact Bool.and_comm _ _
def disj(l r:List Nat):Bool:=l.all fun a=>!r.any fun b=>Nat.beq a b
theorem Wv{l r:List Nat}(h:disj l r=true){n:Nat}(h1:n∈l)(h2:n∈r):False:=by
 unfold disj at h
 rw[XaD]at h
 have:=h n h1
 rw[Xa6,XcA]at this
 exact this n h2 ((Qg _ _).2 rfl)
def nmO(l:List (Nat×AO)):List Nat:=l.map Prod.fst
def nmS(l:List (Nat×AV)):List Nat:=l.map Prod.fst
structure Ind (x y:Lo):Prop where
 s1:disj x.d.toList (nmS y.rs++y.d.toList)=true
 s2:disj y.d.toList (nmS x.rs)=true
 o1:disj (nmO x.wo) (nmO y.ro++y.fr++nmO y.wo)=true
 o2:disj (nmO y.wo) (nmO x.ro++x.fr)=true
 k1:(y.rs.all (·.2.full)&&y.ro.all (·.2.full)&&y.v.okp (Yi x.kl)&&y.wo.all (·.2.okp (Yi x.kl)))=true
 k2:(x.rs.all (·.2.okp (Yi y.kl))&&x.ro.all (·.2.okp (Yi y.kl))&&x.v.okp (Yi y.kl)&&x.wo.all (·.2.okp (Yi y.kl)))=true
def ind(x y:Lo):Bool:=disj x.d.toList (nmS y.rs++y.d.toList)&&disj y.d.toList (nmS x.rs)&&disj (nmO x.wo) (nmO y.ro++y.fr++nmO y.wo)&&disj (nmO y.wo) (nmO x.ro++x.fr)&&
 (y.rs.all (·.2.full)&&y.ro.all (·.2.full)&&y.v.okp (Yi x.kl)&&y.wo.all (·.2.okp (Yi x.kl)))&&(x.rs.all (·.2.okp (Yi y.kl))&&x.ro.all (·.2.okp (Yi y.kl))&&x.v.okp (Yi y.kl)&&x.wo.all (·.2.okp (Yi y.kl)))
theorem QqB{x y:Lo}(h:ind x y=true):Ind x y:=by
 unfold ind at h
 rw[Xaf,Xaf,Xaf,Xaf,Xaf]at h
 exact⟨h.1.1.1.1.1,h.1.1.1.1.2,h.1.1.1.2,h.1.1.2,h.1.2,h.2⟩
theorem VW{l:List (Nat×AO)}{p:Nat}(h:p∉nmO l):Qm l p=none:=by
 cases hl:Qm l p with
 | none=>rfl
 | some x=>exact absurd (Xad.2 ⟨_,Jl hl,rfl⟩) h
theorem Ind.commute{x y:Lo}{s:Fs}(h:Ind x y)(hx:x.Pre s)(hy:y.Pre (x.app s)):y.Pre s/\x.Pre (y.app s)/\y.app (x.app s)=x.app (y.app s):=by
 have k1:=h.k1
 have k2:=h.k2
 simp only[Xaf,XaD]at k1 k2
 have hxr:=Jh.1 hx.rs
 have hxo:=Jh.1 hx.ro
 have hxf:=Jh.1 hx.fr
 have hyr:=Jh.1 hy.rs
 have hyo:=Jh.1 hy.ro
 have hyf:=Jh.1 hy.fr
 refine⟨⟨Jh.2 fun z hz=>?_,Jh.2 fun z hz=>?_,Jh.2 fun p hp=>?_⟩,⟨Jh.2 fun z hz=>?_,Jh.2 fun z hz=>?_,Jh.2 fun p hp=>?_⟩,?_⟩
 ·have h1:=hyr z hz
  simp only[Lo.app]at h1
  rw[if_neg (fun e=>Wv h.s1 (n:=z.1) (by rw[e];simp) (Xat _ (Xad.2 ⟨z,hz,rfl⟩)))]at h1
  have h2:=k1.1.1.1 z hz
  rw[<-h1]at h2
  rw[<-h1,AV.cut_full _ _ h2]
 ·have h1:=hyo z hz
  simp only[Lo.app]at h1
  rw[VW (fun e=>Wv h.o1 e (Xat _ (Xat _ (Xad.2 ⟨z,hz,rfl⟩))))]at h1
  simp only at h1
  cases hg:s.g z.1 with
  | none=>rw[hg]at h1;cases h1
  | some a=>
   rw[hg]at h1
   simp only[XaT,Xal]at h1
   have h2:=k1.1.1.2 z hz
   rw[<-h1]at h2
   rw[<-h1,AO.cut_full _ _ h2]
 ·have h1:=hyf p hp
  simp only[Lo.app]at h1
  rw[VW (fun e=>Wv h.o1 e (Xat _ (Xav _ hp)))]at h1
  simpa using h1
 ·simp only[Lo.app]
  rw[if_neg (fun e=>Wv h.s2 (n:=z.1) (by rw[e];simp) (Xad.2 ⟨z,hz,rfl⟩)),hxr z hz]
  exact AV.cut_ok _ (k2.1.1.1 z hz)
 ·simp only[Lo.app]
  rw[VW (fun e=>Wv h.o2 e (Xat _ (Xad.2 ⟨z,hz,rfl⟩)))]
  simp only
  rw[hxo z hz,XaT,AO.cut_ok _ (k2.1.1.2 z hz)]
 ·simp only[Lo.app]
  rw[VW (fun e=>Wv h.o2 e (Xav _ hp))]
  simp only
  rw[hxf p hp]
  rfl
 ·refine Fs.ext ?_ ?_
  ·funext t
   simp only[Lo.app]
   by_cases e1:x.d=some t
   ·have e2:¬y.d=some t:=fun e=>Wv h.s1 (n:=t) (by rw[e1];simp) (Xav _ (by rw[e];simp))
    rw[if_neg e2,if_pos e1,if_pos e1]
    exact AV.cut_ok _ k2.1.2
   ·rw[if_neg e1,if_neg e1]
    by_cases e2:y.d=some t
    ·rw[if_pos e2,if_pos e2]
     exact(AV.cut_ok _ k1.1.2).symm
    ·rw[if_neg e2,if_neg e2]
     exact AV.cut_comm _ _ _
  ·funext p
   simp only[Lo.app]
   cases h1:Qm x.wo p with
   | some a=>
    have h2:Qm y.wo p=none:=VW fun e=>Wv h.o1 (Xad.2 ⟨_,Jl h1,rfl⟩) (Xav _ e)
    rw[h2]
    simp only[XaT]
    rw[AO.cut_ok _ (k2.2 _ (Jl h1))]
   | none=>
    cases h2:Qm y.wo p with
    | some a=>
     simp only[XaT]
     rw[AO.cut_ok _ (k1.2 _ (Jl h2))]
    | none=>
     simp only[Option.map_map]
     congr 1
     funext z
     exact AO.cut_comm _ _ _

structure St where
 i:Nat
 pr:List Nat
 o:Oper
 lo:Lo
def Chain(X:Cx)(nt:Nat)(ops:Array Oper)(N:Fs->Prop):List St->Fs->Prop
 | [],s=>N s
 | e::l,s=>LoG X nt ops e.o e.lo/\e.lo.Pre s/\Chain X nt ops N l (e.lo.app s)
section
variable {X:Cx} {nt:Nat} {N:Fs->Prop}
theorem Chain.pull{ops:Array Oper}{e:St}{l2:List St}:∀{l1:List St} {s:Fs},(∀x∈l1,Ind x.lo e.lo)->Chain X nt ops N (l1++e::l2) s->LoG X nt ops e.o e.lo/\e.lo.Pre s/\Chain X nt ops N (l1++l2) (e.lo.app s)
 | [],_,_,h=>h
 | x::l1,s,hi,h=>by
  obtain⟨h1,h2,h3⟩:=h
  obtain⟨g1,g2,g3⟩:=Chain.pull (fun y hy=>hi y (Xae _ hy)) h3
  obtain⟨c1,c2,c3⟩:=(hi x Xaa).commute h2 g2
  exact⟨g1,c1,h1,c2,by rw[<-c3];exact g3⟩
def dep(o:Oper)(j:Nat):Bool:=o.after.toList.any fun e=>Region.binds .any e&&Nat.beq e.on j
structure ChL (ops:Array Oper) (L:List St):Prop where
 ops:∀e∈L,ops[e.i]?=some e.o/\∀d∈e.o.after,Region.binds .any d=true->d.on<e.i
 pair:L.Pairwise fun x y=>x.i<y.i/\(x.i∈y.pr\/Ind x.lo y.lo)
def Far(F:List St):Prop:=∀e∈F,∀j∈e.pr,dep e.o j=true\/∃f∈F,dep e.o f.i=true/\j∈f.pr
theorem QiV{ops:Array Oper}{Q:Exit->Act->World->Prop}{F:List St}(hFar:Far F)(hone:∀f∈F,∀e∈F,f.i=e.i->f.pr=e.pr)(hQ:∀s a w,N s->RelF X nt s a w->Q .normal a w):∀(fuel:Nat) (listed:Array Bool) (L:List St) (s:Fs) (a:Act) (w:World),
  RelF X nt s a w->Chain X nt ops N L s->ChL ops L->(∀e∈L,e∈F)->(∀e∈F,listed.getD e.i false=true->∀j∈e.pr,listed.getD j false=true)->(∀i,i<ops.size->(listed.getD i true=false↔∃e∈L,e.i=i))->listed.size=ops.size->L.length<=fuel->wpAny X.P .any ops Q fuel listed a w:=by
 have ready_in:∀{listed:Array Bool} {L:List St} {i:Nat},(∀i,i<ops.size->(listed.getD i true=false↔∃e∈L,e.i=i))->ChL ops L->i∈Region.ready .any ops listed->
   ∃e∈L,e.i=i/\∀d∈e.o.after,Region.binds .any d=true->listed.getD d.on false=true:=by
  intro listed L i hl hc hi
  unfold Region.ready at hi
  rw[XaF,Xb4]at hi
  obtain⟨h1,h2⟩:=hi
  simp only[Xaf,Xa6]at h2
  obtain⟨e,he,hei⟩:=(hl i h1).1 h2.1
  refine⟨e,he,hei,fun d hd hb=>?_⟩
  have h3:=h2.2
  rw[<-hei,(hc.ops e he).1]at h3
  simp only[XaT,XaP,Xcg]at h3
  have:=h3 d hd
  rw[hb]at this
  simpa using this
 have not_nil:∀{listed:Array Bool} {e:St} {L:List St},(∀i,i<ops.size->(listed.getD i true=false↔∃e'∈e::L,e'.i=i))->listed.size=ops.size->ChL ops (e::L)->Region.ready .any ops listed≠[]:=by
  intro listed e L hl hsz hc hn
  have h1:=(hc.ops e Xaa).1
  have hlt:e.i<ops.size:=(Array.getElem?_eq_some_iff.1 h1).1
  have h2:e.i∈Region.ready .any ops listed:=by
   unfold Region.ready
   rw[XaF,Xb4]
   refine⟨hlt,?_⟩
   rw[(hl e.i hlt).2 ⟨e,Xaa,rfl⟩,h1]
   simp only[Bool.not_false,XaT,XaP,Xbx,Xcg]
   intro d hd
   cases hb:Region.binds .any d with
   | false=>rfl
   | true=>
    have hdl:=(hc.ops e Xaa).2 d hd hb
    have hdlt:d.on<ops.size:=Nat.lt_trans hdl hlt
    have h3:listed.getD d.on true≠false:=fun e'=>by
     obtain⟨e2,he2,e3⟩:=(hl d.on hdlt).1 e'
     rcases Xaj.1 he2 with rfl|he2
     ·omega
     ·have:=(Xau.1 hc.pair).1 e2 he2
      omega
    have h4:listed.getD d.on false=true:=by
     have hin:d.on<listed.size:=by omega
     simp only[Array.getD_eq_getD_getElem?,Array.getElem?_eq_getElem hin,XaP]at h3 ⊢
     simpa using h3
    rw[h4,Bool.or_true]
  rw[hn]at h2
  cases h2
 intro fuel
 induction fuel with
 | zero=>
  intro listed L s a w hr hc hcl _ _ hl hsz hlen
  have:L=[]:=XaA (by omega)
  subst this
  refine⟨?_,hQ s a w hc hr⟩
  cases hrd:Region.ready .any ops listed with
  | nil=>rfl
  | cons i is=>
   obtain⟨e,he,_⟩:=ready_in hl hcl (i:=i) (by rw[hrd];exact Xaa)
   cases he
 | succ fuel ih=>
  intro listed L s a w hr hc hcl hLF hdown hl hsz hlen
  refine⟨fun hn=>?_,fun i hi=>?_⟩
  ·cases L with
   | nil=>exact hQ s a w hc hr
   | cons e L=>exact absurd hn (not_nil hl hsz hcl)
  ·obtain⟨e,he,hei,hdeps⟩:=ready_in hl hcl hi
   obtain⟨l1,l2,rfl⟩:=List.append_of_mem he
   have hp:=hcl.pair
   rw[Xbc]at hp
   obtain⟨p1,p2,p3⟩:=hp
   have hlt1:∀x∈l1,x.i<e.i:=fun x hx=>(p3 x hx e Xaa).1
   have hlt2:∀x∈l2,e.i<x.i:=fun x hx=>((Xau.1 p2).1 x hx).1
   have hie:i<ops.size:=by rw[<-hei];exact(Array.getElem?_eq_some_iff.1 (hcl.ops e he).1).1
   have hdl:∀j,dep e.o j=true->listed.getD j false=true:=fun j h1=>by
    unfold dep at h1
    rw[XaX]at h1
    obtain⟨d,hd,h2⟩:=h1
    rw[Xaf]at h2
    have h3:=hdeps d (Array.mem_toList_iff.1 hd) h2.1
    rwa [(Qg _ _).1 h2.2]at h3
   have hpr:∀j∈e.pr,listed.getD j false=true:=fun j hj=>by
    rcases hFar e (hLF e he) j hj with h1|⟨f,hf,h1,h2⟩
    ·exact hdl j h1
    ·exact hdown f hf (hdl _ h1) j h2
   have hind:∀x∈l1,Ind x.lo e.lo:=fun x hx=>by
    rcases(p3 x hx e Xaa).2 with h1|h1
    ·exfalso
     have h3:=hpr x.i h1
     have hx2:x.i<ops.size:=Nat.lt_trans (hlt1 x hx) (by rw[hei];exact hie)
     have h4:=(hl x.i hx2).2 ⟨x,Xat _ hx,rfl⟩
     have hin:x.i<listed.size:=by omega
     simp only[Array.getD_eq_getD_getElem?,Array.getElem?_eq_getElem hin,XaP]at h3 h4
     rw[h3]at h4;cases h4
    ·exact h1
   obtain⟨g1,g2,g3⟩:=Chain.pull hind hc
   unfold wpOp
   rw[<-hei,(hcl.ops e he).1]
   refine g1 s a w hr g2 _ _ fun a' w' hr'=>?_
   refine ih _ (l1++l2) (e.lo.app s) a' w' hr' g3 ⟨fun x hx=>hcl.ops x ?_,?_⟩ (fun x hx=>hLF x ?_) (fun f hf hlf j hj=>?_) (fun j hj=>?_) (by simpa using hsz) (by simp at hlen ⊢;omega)
   ·rcases Xag.1 hx with hx|hx
    ·exact Xat _ hx
    ·exact Xav _ (Xae _ hx)
   ·rw[Xbc]
    exact⟨p1,(Xau.1 p2).2,fun x hx y hy=>p3 x hx y (Xae _ hy)⟩
   ·rcases Xag.1 hx with hx|hx
    ·exact Xat _ hx
    ·exact Xav _ (Xae _ hx)
   ·have up:∀k,listed.getD k false=true->(listed.setIfInBounds e.i true).getD k false=true:=fun k hk=>by
     by_cases hek:e.i=k
     ·subst hek
      have hin:e.i<listed.size:=by rw[hsz,hei];exact hie
      simp[Array.getD_eq_getD_getElem?,hin]
     ·simp only[Array.getD_eq_getD_getElem?,Array.getElem?_setIfInBounds_ne hek]
      rw[<-Array.getD_eq_getD_getElem?]
      exact hk
    by_cases hef:e.i=f.i
    ·have hfo:f.pr=e.pr\/listed.getD f.i false=true:=by
      by_cases hlf':listed.getD f.i false=true
      ·exact .inr hlf'
      ·refine .inl ?_
       exact(hone f hf e (hLF e he) hef.symm)
     rcases hfo with h1|h1
     ·rw[h1]at hj;exact up j (hpr j hj)
     ·exact up j (hdown f hf h1 j hj)
    ·have h1:listed.getD f.i false=true:=by
      simp only[Array.getD_eq_getD_getElem?,Array.getElem?_setIfInBounds_ne hef]at hlf
      rw[<-Array.getD_eq_getD_getElem?]at hlf
      exact hlf
     exact up j (hdown f hf h1 j hj)
   ·have hin:e.i<listed.size:=by rw[hsz,hei];exact hie
    by_cases hje:e.i=j
    ·subst hje
     refine⟨fun hh=>?_,fun⟨x,hx,hxi⟩=>?_⟩
     ·simp[Array.getD_eq_getD_getElem?,hin]at hh
     ·rcases Xag.1 hx with hx|hx
      ·have:=hlt1 x hx;omega
      ·have:=hlt2 x hx;omega
    ·have e1:(listed.setIfInBounds e.i true).getD j true=listed.getD j true:=by
      simp only[Array.getD_eq_getD_getElem?,Array.getElem?_setIfInBounds_ne hje]
     rw[e1,hl j hj]
     refine⟨fun⟨x,hx,hxi⟩=>⟨x,?_,hxi⟩,fun⟨x,hx,hxi⟩=>⟨x,?_,hxi⟩⟩
     ·rcases Xag.1 hx with hx|hx
      ·exact Xat _ hx
      ·rcases Xaj.1 hx with rfl|hx
       ·exact absurd hxi hje
       ·exact Xav _ hx
     ·rcases Xag.1 hx with hx|hx
      ·exact Xat _ hx
      ·exact Xav _ (Xae _ hx)
end

theorem nlit(n:Nat):(@OfNat.ofNat Int n instOfNat:Int)=((@OfNat.ofNat Nat n (instOfNatNat n):Nat):Int):=rfl

def Qtc:Op->List Operand
 | .move x|.assign x|.box _ x|.load _ x|.nilCheck x|.unOp _ _ x|.convert _ _ x|.fieldAddr _ x _|.field _ x _|.extract x _=>[x]
 | .pick c x y=>[c,x,y]
 | .build _ ps|.buildSlice _ _ ps=>ps.toList.map (·.2)
 | .store _ x y|.binOp _ _ x y _|.makeSlice _ x y|.indexAddr _ x y|.index _ x y=>[x,y]
 | .slice _ x l h _=>x::(l.toList++h.toList)
 | .call c=>match c.callee with
  | .value x=>x::c.args.toList
  | _=>c.args.toList
 | _=>[]
def Qjk:List Operand->List Nat
 | []=>[]
 | .tmp t::l=>t::Qjk l
 | _::l=>Qjk l
def XF{α:Type}(v:AV)(k:AV->Option α):Option α:=
 match v with
 | .any=>k .any
 | .d x=>(match x with
  | .n a b=>k (.d (.n a b))
  | .b a=>k (.d (.b a))
  | .s a=>k (.d (.s a))
  | .sl a=>k (.d (.sl a))
  | .un=>k (.d .un))
 | .nil=>k .nil
 | .row o=>k (.row o)
 | .ptr o i=>k (.ptr o i)
 | .pr o i j=>k (.pr o i j)
 | .pd e i=>k (.pd e i)
 | .agg xs=>Vj xs fun ys=>k (.agg ys)
 | .tup xs=>Vj xs fun ys=>k (.tup ys)
 | .clo g xs=>Vj xs fun ys=>k (.clo g ys)
 | .sub o i j=>k (.sub o i j)
theorem Qac{α:Type}(v:AV)(k:AV->Option α):XF v k=k v:=by
 cases v with
 | d x=>cases x <;> rfl
 | agg xs=>exact Yu xs _
 | tup xs=>exact Yu xs _
 | clo g xs=>exact Yu xs _
 | _=>rfl
def QoZ{α:Type}(v:AO)(k:AO->Option α):Option α:=
 match v with
 | .row e es dp=>(match dp with
  | true=>k (.row e es true)
  | false=>k (.row e es false))
 | .box e cs=>Vj cs fun ds=>k (.box e ds)
theorem QhR{α:Type}(v:AO)(k:AO->Option α):QoZ v k=k v:=by
 cases v with
 | row e es dp=>cases dp <;> rfl
 | box e cs=>exact Yu cs _
def Qqj{α:Type}(σ:AS):List Nat->List (Nat×AV)->(List (Nat×AV)->Option α)->Option α
 | [],acc,k=>k acc
 | t::l,acc,k=>XF (look σ.sl t) fun v=>Qqj σ l ((t,v)::acc) k
mutual
def QrO:AV->List Nat
 | .row o=>[o]
 | .ptr o _=>[o]
 | .pr o _ _=>[o]
 | .agg xs=>QhZ xs
 | .tup xs=>QhZ xs
 | .clo _ xs=>QhZ xs
 | .sub o _ _=>[o]
 | _=>[]
def QhZ:List AV->List Nat
 | []=>[]
 | x::xs=>QrO x++QhZ xs
end
def Qu4:AO->List Nat
 | .box _ cs=>QhZ cs
 | _=>[]
def Qls{α:Type}(σ:AS):Nat->List Nat->List (Nat×AO)->(List (Nat×AO)->Option α)->Option α
 | 0,_,acc,k=>k acc
 | _,[],acc,k=>k acc
 | f+1,n::l,acc,k=>bif hasN n acc then Qls σ f l acc k else(match Qm σ.ob n with
  | some ao=>QoZ ao fun a=>Qls σ f (Qu4 a++l) ((n,a)::acc) k
  | none=>Qls σ f l acc k)
def Qet:List (Nat×AV)->List Nat
 | []=>[]
 | (_,v)::l=>QrO v++Qet l
def ZS(σ:AS)(o:Oper):Option (List (Nat×AV)×List (Nat×AO)):=
 Qqj σ (Qjk (Qtc o.op)) [] fun rs=>Qls σ 64 (Qet rs) [] fun ro=>some (rs,ro)
theorem QjW{α:Type}{σ:AS}{k:List (Nat×AV)->Option α}{r:α}:∀{l:List Nat} {acc:List (Nat×AV)},(∀y∈acc,look σ.sl y.1=y.2)->Qqj σ l acc k=some r->∃rs,(∀y∈rs,look σ.sl y.1=y.2)/\k rs=some r
 | [],acc,ha,h=>⟨acc,ha,h⟩
 | t::l,acc,ha,h=>by
  rw[Qqj,Qac]at h
  exact QjW (fun y hy=>by
   rcases Xaj.1 hy with rfl|hy
   ·rfl
   ·exact ha y hy) h
theorem Qcb{α:Type}{σ:AS}{k:List (Nat×AO)->Option α}{r:α}:∀{f:Nat} {l:List Nat} {acc:List (Nat×AO)},(∀y∈acc,Qm σ.ob y.1=some y.2)->Qls σ f l acc k=some r->∃ro,(∀y∈ro,Qm σ.ob y.1=some y.2)/\k ro=some r
 | 0,_,acc,ha,h=>⟨acc,ha,h⟩
 | f+1,[],acc,ha,h=>⟨acc,ha,h⟩
 | f+1,n::l,acc,ha,h=>by
  rw[Qls]at h
  cases hn:hasN n acc with
  | true=>rw[hn]at h;exact Qcb ha h
  | false=>
   rw[hn,cond_false]at h
   split at h
   ·rename_i ao hao
    rw[QhR]at h
    exact Qcb (fun y hy=>by
     rcases Xaj.1 hy with rfl|hy
     ·exact hao
     ·exact ha y hy) h
   ·exact Qcb ha h
theorem QlJ{σ:AS}{o:Oper}{rs:List (Nat×AV)}{ro:List (Nat×AO)}(h:ZS σ o=some (rs,ro)):(∀y∈rs,look σ.sl y.1=y.2)/\∀y∈ro,Qm σ.ob y.1=some y.2:=by
 unfold ZS at h
 obtain⟨rs',h1,h2⟩:=QjW (by simp) h
 obtain⟨ro',h3,h4⟩:=Qcb (by simp) h2
 injection h4 with h4
 injection h4 with e1 e2
 subst e1;subst e2
 exact⟨h1,h3⟩
def Qvm(o:Oper)(rs:List (Nat×AV)):Option (List Nat×List Nat):=
 match o.op with
 | .store _ x _=>match x with
  | .tmp t=>match look rs t with
   | .ptr p _=>some ([p],[])
   | .pr p _ _=>some ([p],[])
   | _=>none
  | _=>none
 | .call c=>match c.callee with
  | .builtin b=>match b with
   | .append=>match c.args.toList with
    | .tmp t::_=>match look rs t with
     | .row p=>some ([p],[p])
     | _=>some ([],[])
    | _=>some ([],[])
   | _=>some ([],[])
  | _=>some ([],[])
 | _=>some ([],[])
def freS(kl:List Nat)(ro:List (Nat×AO))(n:Nat):Bool:=kl.any (fun k=>Nat.beq k n)||!hasN n ro
def dstV(o:Oper)(τ:AS):AV:=match o.dst with
 | some d=>look τ.sl d
 | none=>.nil
def obsK{α:Type}:List (Nat×AO)->(List (Nat×AO)->Option α)->Option α
 | [],k=>k []
 | (n,ao)::l,k=>QoZ ao fun a=>obsK l fun l'=>k ((n,a)::l')
theorem Qi0{α:Type}:∀(l:List (Nat×AO)) (k:List (Nat×AO)->Option α),obsK l k=k l
 | [],k=>rfl
 | (n,ao)::l,k=>by rw[obsK,QhR,Qi0]
def wofr(ro:List (Nat×AO))(ch:List Nat):List (Nat×AO)->List (Nat×AO)->List Nat->Option (List (Nat×AO)×List Nat)
 | [],w,f=>some (w,f)
 | (n,a)::l,w,f=>bif hasN n ro then(bif ch.any (fun k=>Nat.beq k n)then wofr ro ch l ((n,a)::w) f else wofr ro ch l w f)else wofr ro ch l ((n,a)::w) (n::f)
def Qfl:AO->AO->Bool
 | .row e _ _,.row e' _ _=>Nat.beq e e'
 | .box ..,.box ..=>true
 | _,_=>false
def chkW(ob':List (Nat×AO)):List (Nat×AO)->Bool
 | []=>true
 | (n,_)::l=>hasN n ob'&&chkW ob' l
def chkM(ro:List (Nat×AO))(fr:List Nat):List (Nat×AO)->Bool
 | []=>true
 | (n,_)::l=>(hasN n ro||fr.any fun k=>Nat.beq k n)&&chkM ro fr l
def Qev(_:AO):Prop:=True
def QfX(wo ob':List (Nat×AO)):List (Nat×AO)->Bool
 | []=>true
 | (n,a)::l=>(bif hasN n wo then(match Qm ob' n with
  | some a'=>Qfl a a'
  | none=>false)else hasN n ob')&&QfX wo ob' l
theorem QeG{wo ob':List (Nat×AO)}:∀{l:List (Nat×AO)},QfX wo ob' l=true->∀y∈l,(∃a',Qm ob' y.1=some a'/\Qfl y.2 a'=true)\/(hasN y.1 wo=false/\hasN y.1 ob'=true)
 | (n,a)::l,h,y,hy=>by
  simp only[QfX,Xaf]at h
  rcases Xaj.1 hy with rfl|hy
  ·have h1:=h.1
   cases hw:hasN n wo with
   | true=>
    rw[hw,cond_true]at h1
    split at h1
    ·rename_i a' ha;exact .inl ⟨a',ha,h1⟩
    ·cases h1
   | false=>rw[hw,cond_false]at h1;exact .inr ⟨rfl,h1⟩
  ·exact QeG h.2 y hy
theorem Qde{ob':List (Nat×AO)}:∀{l:List (Nat×AO)},chkW ob' l=true->∀y∈l,hasN y.1 ob'=true
 | (n,a)::l,h,y,hy=>by
  simp only[chkW,Xaf]at h
  rcases Xaj.1 hy with rfl|hy
  ·exact h.1
  ·exact Qde h.2 y hy
theorem Qh7{ro:List (Nat×AO)}{fr:List Nat}:∀{l:List (Nat×AO)},chkM ro fr l=true->∀y∈l,hasN y.1 ro=true\/y.1∈fr
 | (n,a)::l,h,y,hy=>by
  simp only[chkM,Xaf,Xcs,XaX]at h
  rcases Xaj.1 hy with rfl|hy
  ·rcases h.1 with h1|⟨k,hk,h1⟩
   ·exact .inl h1
   ·exact .inr ((Qg _ _).1 h1▸hk)
  ·exact Qh7 h.2 y hy
theorem Qfo{a a':AO}(h:Qfl a a'=true):(a.isRow=false/\a'.isRow=false)\/∃e es es' dp dp',a=.row e es dp/\a'=.row e es' dp':=by
 cases a with
 | row e es dp=>
  cases a' with
  | row e' es' dp'=>
   have:=(Qg _ _).1 h
   subst this
   exact .inr ⟨e,es,es',dp,dp',rfl,rfl⟩
  | box=>cases h
 | box e cs=>
  cases a' with
  | row=>cases h
  | box=>exact .inl ⟨rfl,rfl⟩
def cutK(kl:List Nat)(sl:List (Nat×AV)):List (Nat×AV):=match kl with
 | []=>sl
 | k::l=>cutS (Yi (k::l)) sl
def QuH(kl:List Nat)(wo:List (Nat×AO))(ob:List (Nat×AO)):List (Nat×AO):=match kl with
 | []=>ob.filter fun y=>!hasN y.1 wo
 | k::l=>(ob.filter fun y=>!hasN y.1 wo).map fun y=>(y.1,y.2.cut (Yi (k::l)))
def Qeq(σ:AS)(lo:Lo):AS:=⟨σ.nt,(match lo.d with
 | some d=>(d,lo.v)::cutK lo.kl σ.sl
 | none=>cutK lo.kl σ.sl),lo.wo++QuH lo.kl lo.wo σ.ob⟩
theorem QmD(x:AV):x.cut (Yi [])=x:=AV.cut_true x
theorem Qqk(x:AO):x.cut (Yi [])=x:=AO.cut_true x
theorem Qg5(kl:List Nat)(sl:List (Nat×AV))(t:Nat):look (cutK kl sl) t=(look sl t).cut (Yi kl):=by
 cases kl with
 | nil=>exact(QmD _).symm
 | cons k l=>exact Wo _ _ _
theorem Qjl(kl:List Nat)(wo ob:List (Nat×AO))(p:Nat)(h:Qm wo p=none):Qm (QuH kl wo ob) p=(Qm ob p).map (AO.cut (Yi kl)):=by
 have hn:¬hasN p wo=true:=fun e=>by rw[<-YW,h]at e;cases e
 cases kl with
 | nil=>
  have:=Xl (fun n=>hasN n wo) (fun _=>true) ob p
  rw[if_neg hn]at this
  have e:((ob.filter fun y=>!hasN y.1 wo).map fun y=>(y.1,y.2.cut fun _=>true))=ob.filter fun y=>!hasN y.1 wo:=by
   have:(fun(y:Nat×AO)=>(y.1,y.2.cut fun _=>true))=id:=by funext y;simp[AO.cut_true]
   rw[this,XcM]
  rw[e]at this
  exact this
 | cons k l=>
  have:=Xl (fun n=>hasN n wo) (Yi (k::l)) ob p
  rw[if_neg hn]at this
  exact this
theorem Qcw(σ:AS)(lo:Lo):(Qeq σ lo).fs=lo.app σ.fs:=by
 refine Fs.ext ?_ ?_
 ·funext t
  simp only[AS.fs,Qeq,Lo.app]
  cases hd:lo.d with
  | none=>simp only[reduceCtorEq,if_false];exact Qg5 _ _ _
  | some d=>
   simp only[QM,Xal]
   rw[Qg5]
 ·funext p
  simp only[AS.fs,Qeq,Lo.app]
  rw[QbQ]
  cases hq:Qm lo.wo p with
  | some a=>rfl
  | none=>exact Qjl _ _ _ _ hq

def QrD{α:Type}(n:Nat)(k:Nat->Option α):Option α:=match n with
 | 0=>k 0
 | m+1=>k (m+1)
theorem Qo1{α:Type}(n:Nat)(k:Nat->Option α):QrD n k=k n:=by cases n <;> rfl
def Vv{α:Type}:List Nat->(List Nat->Option α)->Option α
 | [],k=>k []
 | n::l,k=>Vv l fun l'=>k (n::l')
theorem VI{α:Type}:∀(l:List Nat) (k:List Nat->Option α),Vv l k=k l
 | [],k=>rfl
 | n::l,k=>by rw[Vv,VI]
def Qhq{α:Type}:List (Nat×AV)->List Nat->(List (Nat×AV)->Option α)->Option α
 | [],_,k=>k []
 | (t,v)::l,seen,k=>bif seen.any (fun x=>Nat.beq x t)then Qhq l seen k else XF v fun v'=>Qhq l (t::seen) fun l'=>k ((t,v')::l')
theorem Qdm{α:Type}{k:List (Nat×AV)->Option α}{r:α}:∀{l:List (Nat×AV)} {seen:List Nat},Qhq l seen k=some r->∃l',k l'=some r/\∀t,t∉seen->look l' t=look l t
 | [],seen,h=>⟨[],h,fun _ _=>rfl⟩
 | (t,v)::l,seen,h=>by
  rw[Qhq]at h
  cases hb:seen.any (fun x=>Nat.beq x t) with
  | true=>
   rw[hb,cond_true]at h
   obtain⟨l',h1,h2⟩:=Qdm h
   refine⟨l',h1,fun t' ht'=>?_⟩
   rw[h2 t' ht',QM,if_neg]
   intro e
   subst e
   rw[XaX]at hb
   obtain⟨x,hx,e⟩:=hb
   exact ht' ((Qg _ _).1 e▸hx)
  | false=>
   rw[hb,cond_false,Qac]at h
   obtain⟨l',h1,h2⟩:=Qdm (k:=fun l'=>k ((t,v)::l')) h
   refine⟨(t,v)::l',h1,fun t' ht'=>?_⟩
   rw[QM,QM]
   by_cases e:t=t'
   ·rw[if_pos e,if_pos e]
   ·rw[if_neg e,if_neg e]
    refine h2 t' (fun hm=>?_)
    rcases Xaj.1 hm with e'|hm
    ·exact e e'.symm
    ·exact ht' hm
def Xz(σ:AS):Option AS:=QrD σ.nt fun n=>Qhq σ.sl [] fun sl=>obsK σ.ob fun ob=>some ⟨n,sl,ob⟩
theorem Qay{σ σ':AS}(h:Xz σ=some σ'):σ'.nt=σ.nt/\σ'.fs=σ.fs/\σ'.ob=σ.ob:=by
 unfold Xz at h
 rw[Qo1]at h
 obtain⟨l',h1,h2⟩:=Qdm h
 rw[Qi0]at h1
 injection h1 with h1
 subst h1
 exact⟨rfl,Fs.ext (funext fun t=>h2 t (by simp)) rfl,rfl⟩
theorem Rel.norm{X:Cx}{σ σ':AS}{a:Act}{w:World}(h:Xz σ=some σ')(hr:Rel X σ a w):Rel X σ' a w:=by
 obtain⟨h1,h2,h3⟩:=Qay h
 obtain⟨en,k⟩:=hr
 refine⟨en,k.mem,by rw[h3];exact k.ob,k.defers,by rw[k.size,h1],fun t=>?_⟩
 have:look σ'.sl t=look σ.sl t:=congrFun (congrArg Fs.f h2) t
 rw[this]
 exact k.slots t
theorem Qcy{X:Cx}{c:Code}{Q:Exit->AS->Prop}{σ σ':AS}(h:Xz σ=some σ')(hc:AWp X c Q σ'):AWp X c Q σ:=fun a w hr=>hc a w (hr.norm h)
theorem Qiv{X:Cx}{id:Nat}{l:List Oper}{Q:Exit->AS->Prop}{σ σ':AS}(hn:Xz σ=some σ')(h:QJ X l.toArray l Q σ'):AWp X (.region id l.toArray false) Q σ:=Qcy hn (QlR h)

def YS(o:Oper):List (Nat×List Nat×Lo)->List Nat
 | []=>[]
 | (i,p,_)::l=>bif dep o i then i::(p++YS o l)else YS o l
theorem Z0{o:Oper}:∀{l:List (Nat×List Nat×Lo)} {j:Nat},j∈YS o l->dep o j=true\/∃y∈l,dep o y.1=true/\j∈y.2.1
 | (i,p,lo)::l,j,h=>by
  rw[YS]at h
  cases hd:dep o i with
  | false=>
   rw[hd,cond_false]at h
   exact(Z0 h).imp id fun⟨y,hy,h1⟩=>⟨y,Xae _ hy,h1⟩
  | true=>
   rw[hd,cond_true]at h
   rcases Xaj.1 h with rfl|h
   ·exact .inl hd
   ·rcases Xag.1 h with h|h
    ·exact .inr ⟨_,Xaa,hd,h⟩
    ·exact(Z0 h).imp id fun⟨y,hy,h1⟩=>⟨y,Xae _ hy,h1⟩
def ChA(X:Cx)(nt:Nat)(ops:Array Oper)(N:AS->Prop):List Oper->List (Nat×List Nat×Lo)->Nat->AS->Prop
 | [],_,_,σ=>Wy σ.ob=true/\N σ
 | o::l,acc,i,σ=>∃lo σ',(LoG X nt ops o lo/\lo.Pre σ.fs)/\((acc.all fun y=>((YS o acc).any fun k=>Nat.beq k y.1)||ind y.2.2 lo)=true/\(o.after.toList.all fun e=>!Region.binds .any e||Nat.blt e.on i)=true)/\(σ'.nt=nt/\σ'.fs=lo.app σ.fs)/\ChA X nt ops N l ((i,YS o acc,lo)::acc) (i+1) σ'
section
variable {X:Cx} {nt:Nat} {ops:Array Oper} {N:AS->Prop}
theorem ChA.build:∀{l:List Oper} {acc:List (Nat×List Nat×Lo)} {i:Nat} {σ:AS},σ.nt=nt->ChA X nt ops N l acc i σ->∃L:List St,Chain X nt ops (fun s=>∃σ,(Wy σ.ob=true/\N σ)/\σ.nt=nt/\σ.fs=s) L σ.fs/\L.map St.o=l/\(∀(k:Nat) (e:St),L[k]?=some e->e.i=i+k)/\
   (∀e∈L,∀d∈e.o.after,Region.binds .any d=true->d.on<e.i)/\(L.Pairwise fun x y=>x.i<y.i/\(x.i∈y.pr\/Ind x.lo y.lo))/\(∀y∈acc,∀e∈L,y.1∈e.pr\/Ind y.2.2 e.lo)/\(∀e∈L,∀j∈e.pr,dep e.o j=true\/(∃f∈L,dep e.o f.i=true/\j∈f.pr)\/∃y∈acc,dep e.o y.1=true/\j∈y.2.1)
 | [],acc,i,σ,hn,h=>⟨[],⟨σ,h,hn,rfl⟩,rfl,by simp,by simp,by simp,by simp,by simp⟩
 | o::l,acc,i,σ,hn,h=>by
  obtain⟨lo,σ',⟨h2,h3⟩,⟨h4,h5⟩,⟨h7,h8⟩,h6⟩:=h
  obtain⟨L,g1,g2,g3,g4,g5,g6,g7⟩:=ChA.build (σ:=σ') h7 h6
  rw[h8]at g1
  have hlt:∀e∈L,i<e.i:=fun e he=>by
   obtain⟨k,hk⟩:=List.getElem?_of_mem he
   rw[g3 k e hk];omega
  refine⟨⟨i,YS o acc,o,lo⟩::L,⟨h2,h3,g1⟩,by rw[Xaw,g2],fun k e he=>?_,fun e he d hd hb=>?_,?_,fun y hy e he=>?_,fun e he j hj=>?_⟩
  ·cases k with
   | zero=>simp only[List.getElem?_cons_zero,Xal]at he;subst he;rfl
   | succ k=>rw[g3 k e (by simpa using he)];omega
  ·rcases Xaj.1 he with rfl|he
   ·rw[XaD]at h5
    have:=h5 d (Array.mem_toList_iff.2 hd)
    rw[hb]at this
    exact Jg this
   ·exact g4 e he d hd hb
  ·rw[Xau]
   exact⟨fun e he=>⟨hlt e he,g6 (i,YS o acc,lo) Xaa e he⟩,g5⟩
  ·rcases Xaj.1 he with rfl|he
   ·rw[XaD]at h4
    have:=h4 y hy
    rw[Xcs,XaX]at this
    refine this.imp (fun⟨k,hk,e⟩=>?_) QqB
    exact(Qg _ _).1 e▸hk
   ·exact g6 y (Xae _ hy) e he
  ·rcases Xaj.1 he with rfl|he
   ·exact(Z0 hj).imp id fun h=>.inr h
   ·rcases g7 e he j hj with h|⟨f,hf,h⟩|⟨y,hy,h⟩
    ·exact .inl h
    ·exact .inr (.inl ⟨f,Xae _ hf,h⟩)
    ·rcases Xaj.1 hy with rfl|hy
     ·exact .inr (.inl ⟨_,Xaa,h⟩)
     ·exact .inr (.inr ⟨y,hy,h⟩)
theorem Qhy{id:Nat}{l:List Oper}{Q:Exit->AS->Prop}{σ:AS}(hm:X.P.follows .mixedOrders=true)(h:ChA X σ.nt l.toArray (Q .normal) l [] 0 σ):AWp X (.region id l.toArray true) Q σ:=fun a w hr=>by
 obtain⟨L,g1,g2,g3,g4,g5,_,g7⟩:=ChA.build (nt:=σ.nt) rfl h
 have hlen:L.length=l.length:=by rw[<-g2,Xah]
 have hat:∀e∈L,l[e.i]?=some e.o/\e.i<l.length:=fun e he=>by
  obtain⟨k,hk⟩:=List.getElem?_of_mem he
  have h1:=g3 k e hk
  rw[XaZ]at h1
  have h2:(L.map St.o)[k]?=some e.o:=by rw[List.getElem?_map,hk];rfl
  rw[g2]at h2
  rw[h1]
  exact⟨h2,(List.getElem?_eq_some_iff.1 h2).1⟩
 have hQ:∀s a' w',(∃σ',(Wy σ'.ob=true/\Q .normal σ')/\σ'.nt=σ.nt/\σ'.fs=s)->RelF X σ.nt s a' w'->lift X Q .normal a' w':=by
  intro s a' w' ⟨σ',⟨hnd,hq⟩,hn,hf⟩ ⟨σ2,hn2,hf2,en,k1⟩
  refine⟨σ',hq,?_⟩
  have e:σ2.fs=σ'.fs:=hf2.trans hf.symm
  have e2:∀p,Qm σ2.ob p=Qm σ'.ob p:=fun p=>congrFun (congrArg Fs.g e) p
  refine⟨en,k1.mem,?_,k1.defers,by rw[k1.size,hn2,hn],fun t=>?_⟩
  ·refine k1.ob.trans ?_
   have n1:(σ2.ob.map Prod.fst).Nodup:=by
    have:=k1.mem.names
    have e:en.map Ent.nm=(en.map Ent.key).map Prod.fst:=by simp only[XaS];rfl
    rw[e]at this
    exact(k1.ob.map _).nodup_iff.1 this
   have n2:=Wc hnd
   have key:∀{l:List (Nat×AO)},(l.map Prod.fst).Nodup->∀y,y∈l↔Qm l y.1=some y.2:=fun {l} hl y=>by
    refine⟨fun hy=>?_,fun hy=>Jl hy⟩
    have h1:(Qm l y.1).isSome=true:=by rw[YW];exact Q9.2 ⟨y,hy,rfl⟩
    obtain⟨x,hx⟩:=Xbo.1 h1
    have:=Xw hl (Jl hx) hy rfl
    rw[hx,<-this]
   refine(Xb1 (YY n1) (YY n2)).2 (fun y=>?_)
   rw[key n1,key n2,e2]
  ·have e1:look σ2.sl t=look σ'.sl t:=congrFun (congrArg Fs.f e) t
   rw[<-e1]
   exact k1.slots t
 have hops:ChL l.toArray L:=⟨fun e he=>⟨by simpa using (hat e he).1,g4 e he⟩,g5⟩
 have hl:∀i,i<l.toArray.size->((Array.replicate l.toArray.size false).getD i true=false↔∃e∈L,e.i=i):=fun i hi=>by
  have hi':i<l.length:=by simpa using hi
  have h1:(Array.replicate l.toArray.size false).getD i true=false:=by
   simp[Array.getD_eq_getD_getElem?,hi']
  rw[h1]
  refine⟨fun _=>?_,fun _=>rfl⟩
  have hiL:i<L.length:=by omega
  refine⟨L[i],Xbf hiL,?_⟩
  have:=g3 i L[i] (List.getElem?_eq_getElem hiL)
  omega
 have hfar:Far L:=fun e he j hj=>(g7 e he j hj).imp (fun h=>h) fun h=>h.elim (fun h=>h) fun⟨y,hy,_⟩=>by cases hy
 have hone:∀f∈L,∀e∈L,f.i=e.i->f.pr=e.pr:=fun f hf e he hi=>by
  obtain⟨k,hk⟩:=List.getElem?_of_mem hf
  obtain⟨k',hk'⟩:=List.getElem?_of_mem he
  have h1:=g3 k f hk
  have h2:=g3 k' e hk'
  have:k=k':=by omega
  subst this
  rw[hk]at hk'
  injection hk' with hk'
  rw[hk']
 have hd0:∀e∈L,(Array.replicate l.toArray.size false).getD e.i false=true->∀j∈e.pr,(Array.replicate l.toArray.size false).getD j false=true:=fun e _ h=>by
  exfalso
  have:∀n i,(Array.replicate n false).getD i false=false:=fun n i=>by
   rw[Array.getD_eq_getD_getElem?,Array.getElem?_replicate]
   split <;> rfl
  rw[this]at h
  cases h
 exact wp_region_any hm (QiV (X:=X) (nt:=σ.nt) hfar hone hQ _ _ L σ.fs a _ ⟨σ,rfl,rfl,hr.ext (Ext.drew w)⟩ g1 hops (fun e he=>he) hd0 hl (by simp) (by simp[hlen]))
theorem Qny{o:Oper}{σ:AS}{rs:List (Nat×AV)}{ro ob' wo:List (Nat×AO)}{ch kl fr:List Nat}{v:AV}(hn:σ.nt=nt)(hsm:ZS σ o=some (rs,ro))
  (hop:∀(w0:World) (Z:ZV (freS kl ro)) (O:Nat->Prop),OpOk ⟨X.P,w0,freS kl ro,Z,O,X.tt⟩ o ⟨σ.nt,rs,ro⟩ (fun σ'=>σ'.nt=σ.nt/\XF (dstV o σ') some=some v/\obsK σ'.ob some=some ob'))
  (_hwf:wofr ro ch ob' [] []=some (wo,fr))
  (hchk:(AS.closed ⟨σ.nt,rs,ro⟩&&QfX wo ob' (ro.filter fun y=>Yi kl y.1)&&chkW ob' ro&&chkW ob' wo&&chkM ro fr ob'&&(fr.all X.fre&&kl.all X.fre)&&fr.all fun p=>!hasN p σ.ob)=true)
  (hspl:allP (fun y=>Qm wo y.1=some y.2\/(Qm wo y.1=none/\(Qm ro y.1).map (AO.cut (Yi kl))=some y.2)) ob') (_hflat:allP (fun y=>Qev y.2) ro):LoOk X nt o ⟨rs,ro,fr,o.dst,v,wo,kl⟩/\Lo.Pre ⟨rs,ro,fr,o.dst,v,wo,kl⟩ σ.fs:=by
 obtain⟨s1,s2⟩:=QlJ hsm
 simp only[Xaf]at hchk
 obtain⟨⟨⟨⟨⟨⟨c1,c2⟩,c3⟩,c4⟩,c5⟩,c6,c7⟩,c8⟩:=hchk
 refine⟨LoS.ok (fre:=freS kl ro) (ob':=ob') ⟨?_,rfl,by rw[<-hn];exact c1,hspl,fun n h1 h2=>?_,fun n ao h1 h2=>?_,fun n h1=>?_,fun n ao h1=>Qh7 c5 (n,ao) h1,fun n e es h1=>?_⟩ (fun n h1=>?_),⟨Jh.2 s1,Jh.2 s2,Jh.2 fun p hp=>?_⟩⟩
 ·intro w0 Z O
  have h1:=hop w0 Z O
  rw[hn]at h1
  intro a w hr next Q hnx
  refine h1 a w hr next Q (fun σ' a' w' ⟨e1,e2,e3⟩ hr'=>hnx σ' a' w' ⟨e1,fun d hd=>?_,?_⟩ hr')
  ·rw[Qac]at e2
   injection e2 with e2
   rw[<-e2]
   unfold dstV
   rw[show o.dst=some d from hd]
  ·rw[Qi0]at e3
   injection e3 with e3
 ·unfold freS at h2
  rw[h1,Bool.not_true,Bool.or_false,XaX]at h2
  obtain⟨k,hk,e⟩:=h2
  exact(Qg _ _).1 e▸hk
 ·rcases QeG c2 (n,ao) (XaF.2 ⟨h1,QhS.2 h2⟩)with ⟨a',k1,k2⟩|⟨k1,k2⟩
  ·exact⟨a',Jl k1,Qfo k2⟩
  ·obtain⟨y,hy,e⟩:=Q9.1 k2
   have e':y.1=n:=e
   have hc:=c1
   simp only[AS.closed,Xaf]at hc
   have hr:Qm ro n=some ao:=by
    have h3:(Qm ro n).isSome=true:=by rw[YW];exact Q9.2 ⟨_,h1,rfl⟩
    obtain⟨x,hx⟩:=Xbo.1 h3
    have:=Xw (Wc hc.2) (Jl hx) h1 rfl
    injection this with _ this
    rw[hx,this]
   have hw:Qm wo n=none:=by
    cases h4:Qm wo n with
    | none=>rfl
    | some q=>rw[<-YW,h4]at k1;cases k1
   rcases Jh.1 hspl y hy with h5|⟨_,h5⟩
   ·rw[e',hw]at h5;cases h5
   ·rw[e',hr]at h5
    injection h5 with h5
    refine⟨y.2,by rw[<-e'];exact hy,?_⟩
    rw[<-h5]
    cases ao with
    | row e2 es dp=>exact .inr ⟨e2,es,es,dp,dp,rfl,rfl⟩
    | box e2 cs=>exact .inl ⟨rfl,rfl⟩
 ·rcases h1 with h1|h1
  ·obtain⟨y,hy,rfl⟩:=Q9.1 h1
   exact Qde c3 y hy
  ·obtain⟨y,hy,rfl⟩:=Q9.1 h1
   exact Qde c4 y hy
 ·trivial
 ·rcases h1 with h1|h1
  ·exact XaD.1 c7 n h1
  ·exact XaD.1 c6 n h1
 ·have:=XaD.1 c8 p hp
  rw[Xa6]at this
  show Qm σ.ob p=none
  cases h3:Qm σ.ob p with
  | none=>rfl
  | some a=>
   have h4:hasN p σ.ob=true:=by rw[<-YW,h3];rfl
   rw[this]at h4;cases h4
theorem QsW{o:Oper}{l:List Oper}{acc:List (Nat×List Nat×Lo)}{i:Nat}{σ:AS}{rs:List (Nat×AV)}{ro ob' wo:List (Nat×AO)}{ch kl fr:List Nat}{v:AV}(hn:σ.nt=nt)(hg:o.guard=none)(hsm:ZS σ o=some (rs,ro))
  (hop:∀(w0:World) (Z:ZV (freS kl ro)) (O:Nat->Prop),OpOk ⟨X.P,w0,freS kl ro,Z,O,X.tt⟩ o ⟨σ.nt,rs,ro⟩ (fun σ'=>σ'.nt=σ.nt/\XF (dstV o σ') some=some v/\obsK σ'.ob some=some ob'))
  (_hwf:wofr ro ch ob' [] []=some (wo,fr))
  (hchk:(AS.closed ⟨σ.nt,rs,ro⟩&&QfX wo ob' (ro.filter fun y=>Yi kl y.1)&&chkW ob' ro&&chkW ob' wo&&chkM ro fr ob'&&(fr.all X.fre&&kl.all X.fre)&&fr.all fun p=>!hasN p σ.ob)=true)
  (hspl:allP (fun y=>Qm wo y.1=some y.2\/(Qm wo y.1=none/\(Qm ro y.1).map (AO.cut (Yi kl))=some y.2)) ob') (hflat:allP (fun y=>Qev y.2) ro)
  {pr:List Nat} (hpr:Vv (YS o acc) some=some pr) (hind:(acc.all fun y=>(pr.any fun k=>Nat.beq k y.1)||ind y.2.2 ⟨rs,ro,fr,o.dst,v,wo,kl⟩)=true) (haf:(o.after.toList.all fun e=>!Region.binds .any e||Nat.blt e.on i)=true)
  {σ':AS} (hnx:Xz (Qeq σ ⟨rs,ro,fr,o.dst,v,wo,kl⟩)=some σ') (hK:ChA X nt ops N l ((i,pr,⟨rs,ro,fr,o.dst,v,wo,kl⟩)::acc) (i+1) σ'):ChA X nt ops N (o::l) acc i σ:=by
 rw[VI]at hpr
 injection hpr with hpr
 subst hpr
 obtain⟨x1,x2,_⟩:=Qay hnx
 obtain⟨y1,y2⟩:=Qny hn hsm hop _hwf hchk hspl hflat
 exact⟨⟨rs,ro,fr,o.dst,v,wo,kl⟩,σ',⟨y1.g hg,y2⟩,⟨hind,haf⟩,⟨x1.trans hn,x2.trans (Qcw σ _)⟩,hK⟩
theorem QtZ{o:Oper}{l:List Oper}{acc:List (Nat×List Nat×Lo)}{i j d:Nat}{t:Bool}{σ:AS}{rs:List (Nat×AV)}{ro ob' wo:List (Nat×AO)}{ch kl fr:List Nat}{v:AV}(hn:σ.nt=nt)(hg:o.guard=some (j,t))(hd:(ops[j]?).bind (·.dst)=some d)(hv:look σ.sl d=.d (.b t))(hsm:ZS σ o=some (rs,ro))
  (hop:∀(w0:World) (Z:ZV (freS kl ro)) (O:Nat->Prop),OpOk ⟨X.P,w0,freS kl ro,Z,O,X.tt⟩ o ⟨σ.nt,rs,ro⟩ (fun σ'=>σ'.nt=σ.nt/\XF (dstV o σ') some=some v/\obsK σ'.ob some=some ob'))
  (_hwf:wofr ro ch ob' [] []=some (wo,fr))
  (hchk:(AS.closed ⟨σ.nt,rs,ro⟩&&QfX wo ob' (ro.filter fun y=>Yi kl y.1)&&chkW ob' ro&&chkW ob' wo&&chkM ro fr ob'&&(fr.all X.fre&&kl.all X.fre)&&fr.all fun p=>!hasN p σ.ob)=true)
  (hspl:allP (fun y=>Qm wo y.1=some y.2\/(Qm wo y.1=none/\(Qm ro y.1).map (AO.cut (Yi kl))=some y.2)) ob') (hflat:allP (fun y=>Qev y.2) ro)
  {pr:List Nat} (hpr:Vv (YS o acc) some=some pr) (hind:(acc.all fun y=>(pr.any fun k=>Nat.beq k y.1)||ind y.2.2 ⟨(d,.d (.b t))::rs,ro,fr,o.dst,v,wo,kl⟩)=true) (haf:(o.after.toList.all fun e=>!Region.binds .any e||Nat.blt e.on i)=true)
  {σ':AS} (hnx:Xz (Qeq σ ⟨(d,.d (.b t))::rs,ro,fr,o.dst,v,wo,kl⟩)=some σ') (hK:ChA X nt ops N l ((i,pr,⟨(d,.d (.b t))::rs,ro,fr,o.dst,v,wo,kl⟩)::acc) (i+1) σ'):ChA X nt ops N (o::l) acc i σ:=by
 rw[VI]at hpr
 injection hpr with hpr
 subst hpr
 obtain⟨x1,x2,_⟩:=Qay hnx
 obtain⟨y1,y2⟩:=Qny hn hsm hop _hwf hchk hspl hflat
 exact⟨⟨(d,.d (.b t))::rs,ro,fr,o.dst,v,wo,kl⟩,σ',⟨y1.yes hg hd,⟨hv,y2.rs⟩,y2.ro,y2.fr⟩,⟨hind,haf⟩,⟨x1.trans hn,x2.trans (Qcw σ _)⟩,hK⟩
theorem Qve{o:Oper}{l:List Oper}{acc:List (Nat×List Nat×Lo)}{i j d:Nat}{t t':Bool}{σ:AS}(hn:σ.nt=nt)(hg:o.guard=some (j,t))(hd:(ops[j]?).bind (·.dst)=some d)(hv:look σ.sl d=.d (.b t'))(hne:(t'==t)=false)(ht:(o.dst.all fun q=>Nat.blt q σ.nt)=true)
  {pr:List Nat} (hpr:Vv (YS o acc) some=some pr) (hind:(acc.all fun y=>(pr.any fun k=>Nat.beq k y.1)||ind y.2.2 ⟨[(d,.d (.b t'))],[],[],o.dst,.tup [],[],[]⟩)=true) (haf:(o.after.toList.all fun e=>!Region.binds .any e||Nat.blt e.on i)=true)
  {σ':AS} (hnx:Xz (Qeq σ ⟨[(d,.d (.b t'))],[],[],o.dst,.tup [],[],[]⟩)=some σ') (hK:ChA X nt ops N l ((i,pr,⟨[(d,.d (.b t'))],[],[],o.dst,.tup [],[],[]⟩)::acc) (i+1) σ'):ChA X nt ops N (o::l) acc i σ:=by
 rw[VI]at hpr
 injection hpr with hpr
 subst hpr
 obtain⟨x1,x2,_⟩:=Qay hnx
 exact⟨⟨[(d,.d (.b t'))],[],[],o.dst,.tup [],[],[]⟩,σ',⟨Qvp hg hd hne (fun q hq=>by rw[hq]at ht;rw[<-hn];exact ht),⟨hv,trivial⟩,trivial,trivial⟩,⟨hind,haf⟩,⟨x1.trans hn,x2.trans (Qcw σ _)⟩,hK⟩
theorem QpC{o:Oper}{l:List Oper}{acc:List (Nat×List Nat×Lo)}{i d:Nat}{t:Bool}{σ:AS}(hv:look σ.sl d=.d (.b t))(h1:t=true->ChA X nt ops N (o::l) acc i (σ.put d (.d (.b true))))(h2:t=false->ChA X nt ops N (o::l) acc i (σ.put d (.d (.b false)))):ChA X nt ops N (o::l) acc i σ:=by
 have key:∀t',t=t'->(σ.put d (.d (.b t'))).fs=σ.fs:=fun t' e=>by
  subst e
  refine Fs.ext (funext fun u=>?_) rfl
  simp only[AS.fs,AS.put,QM]
  split
  ·rename_i e;subst e;exact hv.symm
  ·rfl
 cases ht:t with
 | true=>
  have:=h1 ht
  simp only[ChA,key true ht]at this ⊢
  exact this
 | false=>
  have:=h2 ht
  simp only[ChA,key false ht]at this ⊢
  exact this
theorem Qt0{acc:List (Nat×List Nat×Lo)}{i:Nat}{σ:AS}(h1:Wy σ.ob=true)(h2:N σ):ChA X nt ops N [] acc i σ:=⟨h1,h2⟩
def memO(o:Oper):Bool:=match o.op with
 | .alloc _|.box _ _|.store _ _ _|.buildSlice _ _ _|.makeSlice _ _ _=>true
 | .call c=>(match c.callee with
  | .builtin .append=>true
  | _=>false)
 | _=>false
theorem QmF{id:Nat}{l:List Oper}{Q:Exit->AS->Prop}{σ σ':AS}(_:l.any memO=false)(hm:X.P.follows .mixedOrders=true)(hB:Region.lexB .any l.toArray=true)(hn:Xz σ=some σ')(h:QsOk X l.toArray l (Q .normal) σ'):AWp X (.region id l.toArray true) Q σ:=Qcy hn (QqC hm hB h)
theorem QB(id:Nat){l:List Oper}{Q:Exit->AS->Prop}{σ σ':AS}(hm:X.P.follows .mixedOrders=true)(hn:Xz σ=some σ')(h:ChA X σ'.nt l.toArray (Q .normal) l [] 0 σ'):AWp X (.region id l.toArray true) Q σ:=Qcy hn (Qhy hm h)
theorem QnJ{id:Nat}{l:List Oper}{Q:Exit->AS->Prop}{σ σ':AS}(_:l.any memO=true)(hm:X.P.follows .mixedOrders=true)(hn:Xz σ=some σ')(h:ChA X σ'.nt l.toArray (Q .normal) l [] 0 σ'):AWp X (.region id l.toArray true) Q σ:=Qcy hn (Qhy hm h)
end
end
section

def boxB:List (Nat×AO)->Bool
 | []=>true
 | (_,.row _ _ _)::l=>boxB l
 | (_,.box _ cs)::l=>okpL (fun _=>false) cs&&boxB l
theorem Qak:∀{l:List (Nat×AO)},boxB l=true->∀{n:Nat} {e:TypeId} {cs:List AV},(n,AO.box e cs)∈l->okpL (fun _=>false) cs=true
 | (_,.row _ _ _)::l,h,n,e,cs,hm=>by
  rcases Xaj.1 hm with hm|hm
  ·cases hm
  ·exact Qak (l:=l) h hm
 | (_,.box _ cs')::l,h,n,e,cs,hm=>by
  simp only[boxB,Xaf]at h
  rcases Xaj.1 hm with hm|hm
  ·injection hm with _ hm
   injection hm with _ hm
   rw[hm];exact h.1
  ·exact Qak (l:=l) h.2 hm
def Qam:List (Nat×AO)->Prop
 | []=>True
 | (_,.row _ es d)::l=>(d=true\/YT es=true\/d=false)/\Qam l
 | (_,.box _ cs)::l=>okpL (fun _=>false) cs=true/\Qam l
def QeT:List (Nat×AO)->List (Nat×AO)->Prop
 | [],[]=>True
 | (n,x)::l,(m,y)::l'=>(n=m/\x.isRow=y.isRow/\x.lens=y.lens)/\QeT l l'
 | _,_=>False
def ZH(Zp:Nat->Prop)(eh:List Ent):ZV fre0:=⟨Zp,fun n v=>fre0 n=false->∀x∈eh,x.nm=n->v=x.val,fun n v h h'=>by rw[h]at h';cases h'⟩
def OH(eh:List Ent)(b:Nat):Prop:=∃x∈eh,x.hd b
def MCalls{ι:Type}(P:Program)(f:FuncId)(args:List AV)(obs:List (Nat×AO))(ok:ι->Prop)(rs:ι->List AV)(obs' rob:ι->List (Nat×AO)):Prop:=
 (Qam obs/\∀i,ok i->QeT obs (obs' i)/\Qam (obs' i))/\
 ∀(w:World) (Zp:Nat->Prop) (eh:List Ent) (us:List Value),Mem P w (ZH Zp eh) (OH eh) eh w->eh.map Ent.key=obs->Qn w eh (Imm w (ZH Zp eh) (OH eh) eh w) args us->
  (∀w',(callFunc f us.toArray).run P w'=.ok (.enter f us.toArray) w')/\
  Calls P f us.toArray w fun e w'=>∃i v en,(ok i/\boxB (rob i)=true)/\e=.returned v/\Mem P w (ZH Zp eh) (OH eh) en w'/\(en.map Ent.key).Perm (rob i++obs' i)/\(one (rs i)).shows w' en (Imm w (ZH Zp eh) (OH eh) en w') v
theorem VD:∀{l:List (Nat×AO)},Qam l->∀{n:Nat} {e:TypeId} {cs:List AV},(n,AO.box e cs)∈l->okpL (fun _=>false) cs=true
 | (m,.row e' es' d')::l,h,n,e,cs,hm=>by
  rcases Xaj.1 hm with e1|hm
  ·injection e1 with e1 e2;cases e2
  ·exact VD h.2 hm
 | (m,.box e' cs')::l,h,n,e,cs,hm=>by
  rcases Xaj.1 hm with e1|hm
  ·injection e1 with e1 e2;injection e2 with e2 e3;subst e3;exact h.1
  ·exact VD h.2 hm
theorem Qks:∀{l l':List (Nat×AO)},QeT l l'->∀{x:Nat×AO},x∈l->∃y∈l',y.1=x.1/\y.2.isRow=x.2.isRow/\y.2.lens=x.2.lens
 | (n,x)::l,(m,y)::l',h,z,hz=>by
  rcases Xaj.1 hz with rfl|hz
  ·exact⟨(m,y),Xaa,h.1.1.symm,h.1.2.1.symm,h.1.2.2.symm⟩
  ·obtain⟨q,h1,h2⟩:=Qks h.2 hz
   exact⟨q,Xae _ h1,h2⟩
theorem QbN:∀{l l':List (Nat×AO)},QeT l l'->l'.map Prod.fst=l.map Prod.fst
 | [],[],_=>rfl
 | (n,x)::l,(m,y)::l',h=>by simp only[Xaw,QbN h.2,h.1.1]
theorem ZT{w w':World}{en en':List Ent}{I I':Nat->Prop}(hs:w.heap.size<=w'.heap.size)(hS:∀b,I b->Same w w' b)(hI:∀b,I b->I' b){xs:List AV}{us:List Value}(hc:okpL (fun _=>false) xs=true)(h:Qn w en I xs us):Qn w' en' I' xs us:=by
 have:=YX (p:=fun _=>false) (en':=en') hs hS hI (fun _ _ h=>by cases h) xs us h
 rwa [Qbs xs hc]at this
theorem QcX:∀{en:List Ent},(en.map Ent.nm).Nodup->∀{x y:Ent},x∈en->y∈en->x.nm=y.nm->x=y
 | a::en,h,x,y,hx,hy,he=>by
  simp only[Xaw,XaY,Xad,not_exists,not_and]at h
  rcases Xaj.1 hx with rfl|hx' <;> rcases Xaj.1 hy with rfl|hy'
  ·rfl
  ·exact absurd he.symm (h.1 y hy')
  ·exact absurd he (h.1 x hx')
  ·exact QcX h.2 hx' hy' he

mutual
def AV.na2(n:Nat)(q:Nat->Bool):AV->Bool
 | .d _=>true
 | .nil=>true
 | .row i=>Nat.blt i n
 | .sub i _ _=>q i
 | .ptr i _=>Nat.blt i n
 | .agg xs=>naL2 n q xs
 | .tup xs=>naL2 n q xs
 | _=>false
def naL2(n:Nat)(q:Nat->Bool):List AV->Bool
 | []=>true
 | x::xs=>x.na2 n q&&naL2 n q xs
end
mutual
def AV.ren2(ρ:List Nat):AV->AV
 | .row i=>.row (ρ.getD i 0)
 | .ptr i o=>.ptr (ρ.getD i 0) o
 | .agg xs=>.agg (Qb1 ρ xs)
 | .tup xs=>.tup (Qb1 ρ xs)
 | x=>x
def Qb1(ρ:List Nat):List AV->List AV
 | []=>[]
 | x::xs=>x.ren2 ρ::Qb1 ρ xs
end
theorem Qq5(ρ:List Nat)(rs:List AV):(one rs).ren2 ρ=one (Qb1 ρ rs):=by
 match rs with
 | []=>rfl
 | [x]=>rfl
 | x::y::zs=>rfl
theorem Qtn(n:Nat)(q:Nat->Bool)(rs:List AV)(h:naL2 n q rs=true):(one rs).na2 n q=true:=by
 match rs,h with
 | [],_=>rfl
 | [x],h=>simpa [naL2,one] using h
 | x::y::zs,h=>exact h
section
variable {w:World} {en en':List Ent} {I I':Nat->Prop} {n:Nat} {q:Nat->Bool} {ρ:List Nat}
mutual
theorem AV.shows_ren2(hI:∀b,I b->I' b)(he:∀i,i<n->∀x∈en,x.nm=ρ.getD i 0->∃y∈en',y.nm=i/\y.val=x.val/\y.ao.isRow=x.ao.isRow)(hq:∀k,q k=true->∀x∈en,x.nm=k->∃y∈en',y.nm=k/\y.val=x.val/\y.ao.isRow=x.ao.isRow/\y.ao.lens=x.ao.lens) :
  ∀(x:AV) (u:Value),x.na2 n q=true->(x.ren2 ρ).shows w en I u->x.shows w en' I' u
 | .d x,u,_,h=>by
  obtain⟨F,h1,h2⟩:=h
  exact⟨F,h1,fun b hb=>hI b (h2 b hb)⟩
 | .nil,_,_,h=>h
 | .row i,u,hn,h=>by
  obtain⟨x,hx,h1,h2,h3⟩:=h
  obtain⟨y,hy,g1,g2,g3⟩:=he i (Jg hn) x hx h1
  exact⟨y,hy,g1,by rw[g3];exact h2,by rw[g2];exact h3⟩
 | .sub i a b,u,hn,h=>by
  obtain⟨x,hx,h1,h2,h3,A,m,c,z,h4,h5,h6⟩:=h
  obtain⟨y,hy,g1,g2,g3,g4⟩:=hq i hn x hx h1
  exact⟨y,hy,g1,by rw[g3];exact h2,by rw[g4];exact h3,A,m,c,z,by rw[g2];exact h4,by rw[g4];exact h5,h6⟩
 | .ptr i off,u,hn,h=>by
  obtain⟨x,hx,h1,h2,g,h3,h4⟩:=h
  obtain⟨y,hy,g1,g2,g3⟩:=he i (Jg hn) x hx h1
  exact⟨y,hy,g1,by rw[g3];exact h2,g,by rw[g2];exact h3,h4⟩
 | .agg xs,u,hn,h=>by
  obtain⟨us,h1,h2⟩:=h
  exact⟨us,h1,X0 hI he hq xs us hn h2⟩
 | .tup xs,u,hn,h=>by
  obtain⟨us,h1,h2⟩:=h
  exact⟨us,h1,X0 hI he hq xs us hn h2⟩
theorem X0(hI:∀b,I b->I' b)(he:∀i,i<n->∀x∈en,x.nm=ρ.getD i 0->∃y∈en',y.nm=i/\y.val=x.val/\y.ao.isRow=x.ao.isRow)(hq:∀k,q k=true->∀x∈en,x.nm=k->∃y∈en',y.nm=k/\y.val=x.val/\y.ao.isRow=x.ao.isRow/\y.ao.lens=x.ao.lens) :
  ∀(xs:List AV) (us:List Value),naL2 n q xs=true->Qn w en I (Qb1 ρ xs) us->Qn w en' I' xs us
 | [],_,_,h=>h
 | x::xs,us,hn,h=>by
  obtain⟨u,us',rfl,h1,h2⟩:=h
  simp only[naL2,Xaf]at hn
  exact⟨u,us',rfl,AV.shows_ren2 hI he hq x u hn.1 h1,X0 hI he hq xs us' hn.2 h2⟩
end
end
def XG(σ:AS):List Nat->Nat->List (Nat×AO)->Prop
 | [],_,[]=>True
 | p::ρ,i,(j,.row e es d)::rob=>Nat.beq i j=true/\Qm σ.ob p=some (.row e es d)/\XG σ ρ (i+1) rob
 | p::ρ,i,(j,.box e cs)::rob=>Nat.beq i j=true/\Qm σ.ob p=some (.box e cs)/\XG σ ρ (i+1) rob
 | _,_,_=>False
theorem QiI{σ:AS}{p i j:Nat}{ρ:List Nat}{ao:AO}{rob:List (Nat×AO)}(h:XG σ (p::ρ) i ((j,ao)::rob)):i=j/\Qm σ.ob p=some ao/\XG σ ρ (i+1) rob:=by
 cases ao with
 | row e es d=>
  obtain⟨h1,h2,h3⟩:=h
  exact⟨(Qg _ _).1 h1,h2,h3⟩
 | box e cs=>
  obtain⟨h1,h2,h3⟩:=h
  exact⟨(Qg _ _).1 h1,h2,h3⟩
theorem QgZ{X:Cx}{σ:AS}{a:Act}{w:World}{en:List Ent}(h:JO X σ a w en):∀(ρ:List Nat) (i:Nat) (rob:List (Nat×AO)),ρ.Nodup->XG σ ρ i rob->
  ∃er:List Ent,er.map Ent.key=rob/\(∀y∈er,∃x∈en,x.nm∈ρ/\y={ x with nm:=y.nm })/\
   (er.Pairwise fun y z=>∀b,y.hd b->¬z.hd b)/\(er.Pairwise fun y z=>y.ao.deep=true->z.ao.deep=true->∀b∈y.fs,b∉z.fs)/\
   (∀j,j<ρ.length->∀x∈en,x.nm=ρ.getD j 0->∃y∈er,y.nm=i+j/\y.val=x.val/\y.ao.isRow=x.ao.isRow)/\(∀y∈er,i<=y.nm)
   /\(er.map Ent.nm).Nodup
 | [],i,[],_,_=>⟨[],rfl,by simp,by simp,by simp,by simp,by simp,by simp⟩
 | p::ρ,i,(j',ao)::rob',hn,hr=>by
  obtain⟨hj,h1,h2⟩:=QiI hr
  subst hj
  rw[XaY]at hn
  obtain⟨er,g1,g2,g3,g4,g5,g6,g7⟩:=QgZ h ρ (i+1) rob' hn.2 h2
  obtain⟨x,hx,hxn,hxa⟩:=h.ent h1
  refine⟨{ x with nm:=i }::er,by simp[Ent.key,hxa,<-g1],?_,?_,?_,?_,?_,?_⟩
  ·intro y hy
   rcases Xaj.1 hy with rfl|hy
   ·exact⟨x,hx,by simp[hxn],rfl⟩
   ·obtain⟨z,k1,k2,k3⟩:=g2 y hy
    exact⟨z,k1,Xae _ k2,k3⟩
  ·rw[Xau]
   refine⟨fun y hy b hb=>?_,g3⟩
   obtain⟨z,k1,k2,k3⟩:=g2 y hy
   rw[k3]
   exact h.mem.hd_ne hx k1 (fun e0=>hn.1 (by rw[<-hxn,e0];exact k2)) hb
  ·rw[Xau]
   refine⟨fun y hy dx dy b hb=>?_,g4⟩
   obtain⟨z,k1,k2,k3⟩:=g2 y hy
   rw[k3]at dy ⊢
   exact h.mem.apart_ne hx k1 (fun e0=>hn.1 (by rw[<-hxn,e0];exact k2)) dx dy hb
  ·intro j hj y hy hyn
   cases j with
   | zero=>
    simp only[XbL]at hyn
    have:=h.mem.ent_unique hx hy (hxn.trans hyn.symm)
    subst this
    exact⟨_,Xaa,rfl,rfl,rfl⟩
   | succ j=>
    simp only[Xcb]at hyn
    obtain⟨z,k1,k2,k3⟩:=g5 j (by simpa using hj) y hy hyn
    exact⟨z,Xae _ k1,by omega,k3⟩
  ·intro y hy
   rcases Xaj.1 hy with rfl|hy
   ·exact Xam _
   ·have:=g6 y hy;omega
  ·simp only[Xaw,XaY]
   refine⟨fun hm=>?_,g7⟩
   obtain⟨y,hy,e0⟩:=Xad.1 hm
   have:=g6 y hy
   omega
def RetM{ι:Type}(X:Cx)(fn:Func)(rs:ι->List AV)(obs' rob:ι->List (Nat×AO))(i:ι)(ρ:List Nat)(σ:AS):Prop:=
 (YI ρ&&naL2 ρ.length (fun k=>hasN k (obs' i)) (rs i)&&boxB (rob i)&&(ρ.all fre0)&&((rob i).all fun y=>fre0 y.1)&&Wy (obs' i)&&((obs' i).all fun y=>!fre0 y.1))=true/\Qa3 X σ fn.results.toList (Qb1 ρ (rs i))/\XG σ ρ 0 (rob i)/\obLe σ (obs' i)
def retM{ι:Type}(X:Cx)(fn:Func)(ok:ι->Prop)(rs:ι->List AV)(obs' rob:ι->List (Nat×AO)):Exit->AS->Prop
 | .normal,σ|.ret,σ=>∃i ρ,ok i/\RetM X fn rs obs' rob i ρ σ
 | _,_=>False
theorem YC{ι:Type}{X:Cx}{fn:Func}{ok:ι->Prop}{rs:ι->List AV}{obs' rob:ι->List (Nat×AO)}{σ:AS}(i:ι)(ρ:List Nat)(h0:ok i)
  (h1:(YI ρ&&naL2 ρ.length (fun k=>hasN k (obs' i)) (rs i)&&boxB (rob i)&&(ρ.all fre0)&&((rob i).all fun y=>fre0 y.1)&&Wy (obs' i)&&((obs' i).all fun y=>!fre0 y.1))=true) (h2:Qa3 X σ fn.results.toList (Qb1 ρ (rs i))) (h3:XG σ ρ 0 (rob i)) (h4:obLe σ (obs' i)):retM X fn ok rs obs' rob .ret σ:=⟨i,ρ,h0,h1,h2,h3,h4⟩
theorem QmB{ι:Type}{P:Program}{w0:World}{Z:ZV fre0}{O:Nat->Prop}{tt:(T:TypeId)->Option (TI P T)}{fn:Func}{ok:ι->Prop}{rs:ι->List AV}{obs' rob:ι->List (Nat×AO)}{i:ι}{ρ:List Nat}{σ:AS}{a:Act}{w:World}
  (hok:ok i) (hfl:Qam (obs' i)) (hr:RetM ⟨P,w0,fre0,Z,O,tt⟩ fn rs obs' rob i ρ σ) (h:Rel ⟨P,w0,fre0,Z,O,tt⟩ σ a w) :
  a.defers=[]/\∃v,(results fn a.tmps).run P w=.ok v w/\∃i v' en,(ok i/\boxB (rob i)=true)/\Ending.returned v=.returned v'/\Mem P w0 Z O en w/\(en.map Ent.key).Perm (rob i++obs' i)/\(one (rs i)).shows w en (Imm w0 Z O en w) v':=by
 obtain⟨en,h1⟩:=h
 obtain⟨r1,r3,r4,r5⟩:=hr
 simp only[Xaf]at r1
 obtain⟨⟨⟨⟨⟨⟨q1,q2⟩,qb⟩,q3⟩,q4⟩,q5⟩,q6⟩:=r1
 obtain⟨us,h2,h3⟩:=WW h1 _ _ r3
 obtain⟨er,g1,g2,g3,g4,g5,g6,g7⟩:=QgZ h1 ρ 0 (rob i) (YR q1) r4
 have m:=h1.mem
 let p:Nat->Bool:=fun n=>hasN n (obs' i)
 let eo:List Ent:=(en.filter fun y=>p y.nm).map (Ent.cut p)
 have hle:σ.le ⟨σ.nt,[],obs' i⟩:=by
  refine⟨rfl,trivial,r5,?_⟩
  simp only[AS.closed,Xaf]
  refine⟨⟨rfl,?_⟩,q5⟩
  rw[XaD]
  rintro ⟨n,ao⟩ hy
  cases ao with
  | row=>rfl
  | box e cs=>
   have hc:=VD hfl hy
   have key:∀{p q:Nat->Bool} (_:∀n,p n=true->q n=true),(∀(x:AV),x.okp p=true->x.okp q=true)/\∀(xs:List AV),okpL p xs=true->okpL q xs=true:=fun {p q} hpq=>by
    refine⟨fun x=>AV.rec (motive_1:=fun x=>x.okp p=true->x.okp q=true) (motive_2:=fun xs=>okpL p xs=true->okpL q xs=true) (fun _=>rfl) (fun _ _=>rfl) (fun _=>rfl) (fun o h=>hpq o h) (fun o _ h=>hpq o h) (fun o _ _ h=>hpq o h) (fun _ _ _=>rfl) (fun xs ih h=>ih h) (fun xs ih h=>ih h) (fun _ xs ih h=>ih h) (fun o _ _ h=>hpq o h) (fun _=>rfl) (fun x xs ih1 ih2 h=>?_) x,fun xs=>AV.rec_1 (motive_1:=fun x=>x.okp p=true->x.okp q=true) (motive_2:=fun xs=>okpL p xs=true->okpL q xs=true) (fun _=>rfl) (fun _ _=>rfl) (fun _=>rfl) (fun o h=>hpq o h) (fun o _ h=>hpq o h) (fun o _ _ h=>hpq o h) (fun _ _ _=>rfl) (fun xs ih h=>ih h) (fun xs ih h=>ih h) (fun _ xs ih h=>ih h) (fun o _ _ h=>hpq o h) (fun _=>rfl) (fun x xs ih1 ih2 h=>?_) xs⟩
    all_goals
     simp only[okpL,Xaf]at h ⊢
     exact⟨ih1 h.1,ih2 h.2⟩
   exact(key (p:=fun _=>false) (q:=fun n=>hasN n (obs' i)) (fun _ h=>by cases h)).2 cs hc
 have hτ:=h1.le hle
 have hkey:(eo.map Ent.key).Perm (obs' i):=hτ.ob
 have hmo:∀{y:Ent},y∈eo->∃z∈en,p z.nm=true/\y=z.cut p:=by
  intro y hy
  obtain⟨z,hz,rfl⟩:=Xad.1 hy
  rw[XaF]at hz
  exact⟨z,hz.1,hz.2,rfl⟩
 have hnr:∀y∈er,fre0 y.nm=true:=fun y hy=>by
  have:y.key∈rob i:=g1▸Xad.2 ⟨y,hy,rfl⟩
  exact XaD.1 q4 y.key this
 have hno:∀n,p n=true->fre0 n=false:=fun n hn=>by
  obtain⟨y,hy,rfl⟩:=Q9.1 hn
  have:=XaD.1 q6 y hy
  simpa using this
 have hρ:∀n∈ρ,fre0 n=true:=XaD.1 q3
 have hI:∀b,Imm w0 Z O en w b->Imm w0 Z O (er++eo) w b:=fun b hb=>⟨hb.1,hb.2.1,fun y hy=>by
  rcases Xag.1 hy with hy|hy
  ·obtain⟨x,hx,_,e⟩:=g2 y hy
   rw[e];exact hb.2.2 x hx
  ·obtain⟨z,hz,_,rfl⟩:=hmo hy
   exact fun hq=>hb.2.2 z hz ((Ent.hd_cut p z b).1 hq)⟩
 refine⟨h1.defers,(if h:us.length=1 then us[0]else .tuple us.toArray),?_,i,_,er++eo,⟨hok,qb⟩,rfl,⟨m.os,m.tape,m.output,m.size,m.old,?_,?_,?_,?_,?_⟩,?_,?_⟩
 ·have e:results fn a.tmps=(do let vs <-fn.results.mapM (Zk a.tmps);pure (if h:vs.size=1 then vs[0]else .tuple vs)):=rfl
  have e2:fn.results.mapM (Zk a.tmps)=(do let l <-fn.results.toList.mapM (Zk a.tmps);pure l.toArray):=by
   rw[bind_pure_comp,<-XcB]
  rw[e,e2]
  simp only[Sem.run_bind,h2,Result.andThen,Sem.run_pure]
  simp
 ·rw[XaI,Xbe]
  refine⟨g7,hτ.mem.names,fun n hn n' hn' e=>?_⟩
  subst e
  obtain⟨y,hy,e1⟩:=Xad.1 hn
  obtain⟨z,hz,e2⟩:=Xad.1 hn'
  obtain⟨z',_,hz',rfl⟩:=hmo hz
  have h4:=hnr y hy
  have h5:=hno _ hz'
  rw[e1]at h4
  rw[show z'.nm=n from e2,h4]at h5
  cases h5
 ·rw[Xbc]
  refine⟨g3,hτ.mem.blks,fun y hy z hz b hb=>?_⟩
  obtain⟨x,hx,hxn,e⟩:=g2 y hy
  obtain⟨z',hz1,hz2,rfl⟩:=hmo hz
  rw[e]at hb
  exact fun hq=>m.hd_ne hx hz1 (fun e0=>by
   have h4:=hρ _ hxn
   have h5:=hno _ hz2
   rw[e0,h5]at h4;cases h4) hb ((Ent.hd_cut p z' b).1 hq)
 ·intro y hy
  rcases Xag.1 hy with hy|hy
  ·obtain⟨x,hx,_,e⟩:=g2 y hy
   have hok:=m.ok x hx
   unfold EntOk at hok
   split at hok
   ·rename_i e1 es dp hao
    obtain⟨z,vs,k0,k1,k2,k3,k4,k5,k6,k7⟩:=hok
    rw[e]
    unfold EntOk
    simp only[hao]
    exact⟨z,vs,k0,k1,k2,k3,k4,fun hd b hb=>hI b (k5 hd b hb),k6,k7⟩
   ·rename_i e1 cs hao
    obtain⟨k0,q,cur,k1,k2,k3,k4⟩:=hok
    have hc:okpL (fun _=>false) cs=true:=Qak qb (n:=y.nm) (e:=e1) (by
     rw[<-g1]
     exact Xad.2 ⟨y,hy,by rw[e];exact congrArg (Prod.mk y.nm) hao⟩)
    rw[e]
    unfold EntOk
    simp only[hao]
    exact⟨k0,q,cur,k1,k2,k3,ZT (Xam _) (fun _ _=>rfl) hI hc k4⟩
  ·obtain⟨z,hz,hpz,rfl⟩:=hmo hy
   exact(m.ok z hz).mono (Xam _) (fun _ _=>rfl) hI (fun _ hb=>hb) (fun _ _=>rfl) (fun x hx hpx=>⟨x.cut p,Xav _ (Xad.2 ⟨x,XaF.2 ⟨hx,hpx⟩,rfl⟩),rfl,rfl,AO.cut_isRow p x.ao,AO.cut_lens p x.ao⟩)
 ·rw[Xbc]
  refine⟨g4,hτ.mem.apart,fun y hy z hz hdy hdz b hb=>?_⟩
  obtain⟨x,hx,hxn,e⟩:=g2 y hy
  have hdx:x.ao.deep=true:=by rw[e]at hdy;exact hdy
  obtain⟨z',hz1,hz2,rfl⟩:=hmo hz
  rw[e]at hb
  exact m.apart_ne hx hz1 (fun e0=>by
   have h4:=hρ _ hxn
   have h5:=hno _ hz2
   rw[e0,h5]at h4;cases h4) hdx (by rw[<-AO.cut_deep p];exact hdz) hb
 ·intro y hy
  rcases Xag.1 hy with hy|hy
  ·exact Z.lo _ _ (hnr y hy)
  ·obtain⟨z,hz,_,rfl⟩:=hmo hy
   exact m.fix z hz
 ·rw[XaI,g1]
  exact Xck _ hkey
 ·have key:(one (Qb1 ρ (rs i))).shows w en (Imm w0 Z O en w) (if h:us.length=1 then us[0]else .tuple us.toArray):=by
   generalize Qb1 ρ (rs i)=vs at h3
   match vs,h3 with
   | [],h3=>
    have:us=[]:=h3
    subst this
    exact⟨[],rfl,rfl⟩
   | [x],h3=>
    obtain⟨u,us',rfl,k1,k2⟩:=h3
    have:us'=[]:=k2
    subst this
    exact k1
   | x::y::zs,h3=>
    have:us.length≠1:=by rw[QE h3];simp
    rw[dif_neg this]
    exact⟨us,rfl,h3⟩
  rw[<-Qq5]at key
  exact AV.shows_ren2 hI (fun j hj x hx hn=>by
   obtain⟨y,hy,k1,k2⟩:=g5 j hj x hx hn
   exact⟨y,Xat _ hy,by omega,k2⟩) (fun k hk x hx hn=>by
   subst hn
   exact⟨x.cut p,Xav _ (Xad.2 ⟨x,XaF.2 ⟨hx,hk⟩,rfl⟩),rfl,rfl,AO.cut_isRow _ _,AO.cut_lens _ _⟩) _ _ (Qtn _ _ _ q2) key
theorem Ji{ι:Type}{P:Program}(tt:(T:TypeId)->Option (TI P T)){f:FuncId}{fn:Func}{c:Code}{args:List AV}{obs:List (Nat×AO)}{ok:ι->Prop}{rs:ι->List AV}{obs' rob:ι->List (Nat×AO)}
  (hf : P.funcs[f]? = some fn) (hname : (fn.name == "runtime.NumGoroutine") = false) (hb : fn.body = some c) (hn : Nat.ble args.length fn.ntmps = true) (hfl : Qam obs) (hs : ∀ i, ok i → QeT obs (obs' i) ∧ Qam (obs' i))
  (h:∀(w0:World) (Z:ZV fre0) (O:Nat->Prop),AWp ⟨P,w0,fre0,Z,O,tt⟩ c (retM ⟨P,w0,fre0,Z,O,tt⟩ fn ok rs obs' rob) ⟨fn.ntmps,Qej 0 args,obs⟩):MCalls P f args obs ok rs obs' rob:=by
 refine⟨⟨hfl,hs⟩,?_⟩
 intro w Zp eh us hm hkey hsh
 refine⟨fun w'=>Go.MuLone.run_callFunc_enter hf hname hb _ w',?_⟩
 refine calls_of_wp hf hb ?_
 have hlen:=QE hsh
 have hle:us.length<=fn.ntmps:=by rw[hlen];exact XaJ hn
 have hrel:Rel ⟨P,w,fre0,ZH Zp eh,OH eh,tt⟩ ⟨fn.ntmps,Qej 0 args,obs⟩ { tmps:=us.toArray++Array.replicate (fn.ntmps-us.toArray.size) undef,defers:=[] } w:=by
  refine⟨eh,hm,by rw[hkey],rfl,by simp;omega,fun t=>?_⟩
  simp only[Xr,Xab,if_true,Xby]
  rw[Array.getD_eq_getD_getElem?]
  cases ht:args[t]? with
  | none=>simp only[List.getD,ht,Xb8];trivial
  | some x=>
   obtain⟨u,h1,h2⟩:=Wf hsh ht
   simp only[List.getD,ht,XaP]
   have hlt:t<us.length:=(List.getElem?_eq_some_iff.1 h1).1
   have:(us.toArray++Array.replicate (fn.ntmps-us.toArray.size) undef)[t]?=some u:=by
    rw[Array.getElem?_append_left (by simpa using hlt)]
    simpa using h1
   rw[this]
   exact h2
 refine wp_mono (h w (ZH Zp eh) (OH eh) _ w hrel) (fun e a' w' ⟨σ,hq,hr⟩=>?_)
 cases e with
 | normal=>obtain⟨i,ρ,h0,hq⟩:=hq;exact QmB h0 (hs i h0).2 hq hr
 | ret=>obtain⟨i,ρ,h0,hq⟩:=hq;exact QmB h0 (hs i h0).2 hq hr
 | _=>exact hq.elim

def idxN:List Nat->Nat->Nat->Option Nat
 | [],_,_=>none
 | q::l,n,p=>bif Nat.beq q p then some n else idxN l (n+1) p
theorem Zt:∀{l:List Nat} {n p k:Nat},idxN l n p=some k->n<=k/\k-n<l.length/\l.getD (k-n) 0=p
 | q::l,n,p,k,h=>by
  simp only[idxN]at h
  cases hq:Nat.beq q p with
  | true=>
   rw[hq]at h
   injection h with h
   subst h
   refine⟨Xam _,by simp,?_⟩
   rw[XbX]
   exact(Qg _ _).1 hq
  | false=>
   rw[hq]at h
   obtain⟨h1,h2,h3⟩:=Zt h
   have e:k-n=(k-(n+1))+1:=by omega
   exact⟨by omega,by simp only[Xar];omega,by rw[e];exact h3⟩
mutual
def AV.handB(ρ:List Nat):AV->Option AV
 | .d x=>some (.d x)
 | .nil=>some .nil
 | .row p=>match idxN ρ 1000000 p with
  | some k=>some (.row k)
  | none=>none
 | .ptr p o=>match idxN ρ 1000000 p with
  | some k=>some (.ptr k o)
  | none=>none
 | .agg xs=>match Qe5 ρ xs with
  | some ys=>some (.agg ys)
  | none=>none
 | .clo g xs=>match Qe5 ρ xs with
  | some ys=>some (.clo g ys)
  | none=>none
 | .pd e i=>some (.pd e i)
 | _=>none
def Qe5(ρ:List Nat):List AV->Option (List AV)
 | []=>some []
 | x::xs=>match x.handB ρ with
  | some y=>match Qe5 ρ xs with
   | some ys=>some (y::ys)
   | none=>none
  | none=>none
end
def AS.handA(σ:AS)(ρ:List Nat):List Operand->Option (List AV)
 | []=>some []
 | x::xs=>match (σ.ev x).handB ρ with
  | some y=>match σ.handA ρ xs with
   | some ys=>some (y::ys)
   | none=>none
  | none=>none
def AS.handed(σ:AS):Nat->List Nat->Option (List (Nat×AO))
 | _,[]=>some []
 | n,p::ρ=>match Qm σ.ob p with
  | some ao=>match σ.handed (n+1) ρ with
   | some l=>some ((n,ao)::l)
   | none=>none
  | none=>none
theorem Qd9{X:Cx}{σ:AS}{a:Act}{w:World}{en:List Ent}(h:JO X σ a w en):∀(ρ:List Nat) (n:Nat) (obs:List (Nat×AO)),ρ.Nodup->σ.handed n ρ=some obs->
  ∃eh:List Ent,eh.map Ent.key=obs/\(∀y∈eh,∃x∈en,x.nm∈ρ/\y={ x with nm:=y.nm }/\n<=y.nm/\ρ.getD (y.nm-n) 0=x.nm)/\(eh.Pairwise fun y z=>∀b,y.hd b->¬z.hd b)/\(eh.map Ent.nm).Nodup/\
   (∀j,j<ρ.length->∀x∈en,x.nm=ρ.getD j 0->{ x with nm:=n+j }∈eh)/\∀p∈ρ,∃x∈en,x.nm=p
 | [],n,obs,_,hr=>by injection hr with hr;subst hr;exact⟨[],rfl,by simp,by simp,by simp,by simp,by simp⟩
 | p::ρ,n,obs,hn,hr=>by
  simp only[AS.handed]at hr
  split at hr
  ·rename_i ao hao
   split at hr
   ·rename_i l hl
    injection hr with hr;subst hr
    rw[XaY]at hn
    obtain⟨eh,g1,g2,g3,g4,g5,g6⟩:=Qd9 h ρ (n+1) l hn.2 hl
    obtain⟨x,hx,hxn,hxa⟩:=h.ent hao
    refine⟨{ x with nm:=n }::eh,by simp[Ent.key,hxa,<-g1],?_,?_,?_,?_,?_⟩
    ·intro y hy
     rcases Xaj.1 hy with rfl|hy
     ·exact⟨x,hx,by simp[hxn],rfl,Nat.le_refl _,by simp[hxn]⟩
     ·obtain⟨z,k1,k2,k3,k4,k5⟩:=g2 y hy
      have e:y.nm-n=(y.nm-(n+1))+1:=by omega
      exact⟨z,k1,Xae _ k2,k3,by omega,by rw[e];exact k5⟩
    ·rw[Xau]
     refine⟨fun y hy b hb=>?_,g3⟩
     obtain⟨z,k1,k2,k3,_⟩:=g2 y hy
     rw[k3]
     exact h.mem.hd_ne hx k1 (fun e0=>hn.1 (by rw[<-hxn,e0];exact k2)) hb
    ·simp only[Xaw,XaY]
     refine⟨fun hm=>?_,g4⟩
     obtain⟨y,hy,e0⟩:=Xad.1 hm
     obtain⟨_,_,_,_,k,_⟩:=g2 y hy
     omega
    ·intro j hj y hy hyn
     cases j with
     | zero=>
      simp only[XbL]at hyn
      have:=h.mem.ent_unique hx hy (hxn.trans hyn.symm)
      subst this
      exact Xaa
     | succ j=>
      simp only[Xcb]at hyn
      have:=g5 j (by simpa using hj) y hy hyn
      rw[show n+(j+1)=n+1+j by omega]
      exact Xae _ this
    ·intro q hq
     rcases Xaj.1 hq with rfl|hq
     ·exact⟨x,hx,hxn⟩
     ·exact g6 q hq
   ·cases hr
  ·cases hr
section
variable {w:World} {en eh:List Ent} {I I':Nat->Prop} {ρ:List Nat}
mutual
theorem AV.shows_hand(hI:∀b,I b->I' b)(he:∀j,j<ρ.length->∀x∈en,x.nm=ρ.getD j 0->{ x with nm:=1000000+j }∈eh) :
  ∀(x y:AV) (u:Value),x.handB ρ=some y->x.shows w en I u->y.shows w eh I' u
 | .d x,y,u,hy,h=>by
  injection hy with hy;subst hy
  obtain⟨F,h1,h2⟩:=h
  exact⟨F,h1,fun b hb=>hI b (h2 b hb)⟩
 | .nil,y,u,hy,h=>by injection hy with hy;subst hy;exact h
 | .row p,y,u,hy,h=>by
  simp only[AV.handB]at hy
  split at hy
  ·rename_i k hk
   injection hy with hy;subst hy
   obtain⟨x,hx,rfl,h1,h2⟩:=h
   obtain⟨k1,k2,k3⟩:=Zt hk
   have:=he _ k2 x hx k3.symm
   rw[show 1000000+(k-1000000)=k by omega]at this
   exact⟨_,this,rfl,h1,h2⟩
  ·cases hy
 | .ptr p o,y,u,hy,h=>by
  simp only[AV.handB]at hy
  split at hy
  ·rename_i k hk
   injection hy with hy;subst hy
   obtain⟨x,hx,rfl,h1,g,h2,h3⟩:=h
   obtain⟨k1,k2,k3⟩:=Zt hk
   have:=he _ k2 x hx k3.symm
   rw[show 1000000+(k-1000000)=k by omega]at this
   exact⟨_,this,rfl,h1,g,h2,h3⟩
  ·cases hy
 | .agg xs,y,u,hy,h=>by
  simp only[AV.handB]at hy
  split at hy
  ·rename_i ys hys
   injection hy with hy;subst hy
   obtain⟨us,h1,h2⟩:=h
   exact⟨us,h1,Zg hI he xs ys us hys h2⟩
  ·cases hy
 | .any,_,_,hy,_=>by cases hy
 | .pr _ _ _,_,_,hy,_=>by cases hy
 | .pd e off,y,u,hy,h=>by
  injection hy with hy;subst hy
  obtain⟨b,o,us,F,h1,h2,h3,h4,h5⟩:=h
  exact⟨b,o,us,F,h1,h2,h3,hI b h4,fun c hc=>hI c (h5 c hc)⟩
 | .tup _,_,_,hy,_=>by cases hy
 | .sub _ _ _,_,_,hy,_=>by cases hy
 | .clo g xs,y,u,hy,h=>by
  simp only[AV.handB]at hy
  split at hy
  ·rename_i ys hys
   injection hy with hy;subst hy
   obtain⟨us,h1,h2⟩:=h
   exact⟨us,h1,Zg hI he xs ys us hys h2⟩
  ·cases hy
theorem Zg(hI:∀b,I b->I' b)(he:∀j,j<ρ.length->∀x∈en,x.nm=ρ.getD j 0->{ x with nm:=1000000+j }∈eh) :
  ∀(xs ys:List AV) (us:List Value),Qe5 ρ xs=some ys->Qn w en I xs us->Qn w eh I' ys us
 | [],ys,us,hy,h=>by injection hy with hy;subst hy;exact h
 | x::xs,ys,us,hy,h=>by
  simp only[Qe5]at hy
  split at hy
  ·rename_i y hy1
   split at hy
   ·rename_i ys' hys
    injection hy with hy;subst hy
    obtain⟨u,us',rfl,h1,h2⟩:=h
    exact⟨u,us',rfl,AV.shows_hand hI he x y u hy1 h1,Zg hI he xs ys' us' hys h2⟩
   ·cases hy
  ·cases hy
end
end
theorem XT{X:Cx}{σ:AS}{a:Act}{w:World}{en eh:List Ent}{I':Nat->Prop}{ρ:List Nat}(h:JO X σ a w en)(hI:∀b,IM X en w b->I' b)(he:∀j,j<ρ.length->∀x∈en,x.nm=ρ.getD j 0->{ x with nm:=1000000+j }∈eh) :
  ∀{xs:List Operand} {ys:List AV},σ.handA ρ xs=some ys->Qn w eh I' ys (xs.map a.eval)
 | [],ys,hx=>by injection hx with hx;subst hx;rfl
 | x::xs,ys,hx=>by
  simp only[AS.handA]at hx
  split at hx
  ·rename_i y hy
   split at hx
   ·rename_i zs hzs
    injection hx with hx;subst hx
    exact⟨_,_,rfl,AV.shows_hand hI he _ _ _ hy (AS.ev_shows h x),XT h hI he hzs⟩
   ·cases hx
  ·cases hx

def Jv(t:Nat)(ρ:List Nat)(n:Nat):Nat:=bif fre0 n then Jo t n else ρ.getD (n-1000000) 0
mutual
def AV.mapN(γ:Nat->Nat):AV->AV
 | .row i=>.row (γ i)
 | .agg xs=>.agg (Qa5 γ xs)
 | .tup xs=>.tup (Qa5 γ xs)
 | .clo g xs=>.clo g (Qa5 γ xs)
 | .sub o i j=>.sub (γ o) i j
 | .any=>.any
 | .d x=>.d x
 | .nil=>.nil
 | .ptr o i=>.ptr (γ o) i
 | .pr o i j=>.pr (γ o) i j
 | .pd e i=>.pd e i
def Qa5(γ:Nat->Nat):List AV->List AV
 | []=>[]
 | x::xs=>x.mapN γ::Qa5 γ xs
end
section
variable {w:World} {en en':List Ent} {I I':Nat->Prop} {γ:Nat->Nat}
mutual
theorem AV.shows_mapN(hI:∀b,I b->I' b)(he:∀x∈en,∃y∈en',y.nm=γ x.nm/\y.val=x.val/\y.ao.isRow=x.ao.isRow/\y.ao.lens=x.ao.lens):∀(x:AV) (u:Value),x.shows w en I u->(x.mapN γ).shows w en' I' u
 | .any,_,_=>trivial
 | .d x,u,h=>by
  obtain⟨F,h1,h2⟩:=h
  exact⟨F,h1,fun b hb=>hI b (h2 b hb)⟩
 | .nil,_,h=>h
 | .row o,u,h=>by
  obtain⟨x,hx,rfl,h1,h2⟩:=h
  obtain⟨y,hy,g1,g2,g3,g4⟩:=he x hx
  exact⟨y,hy,g1,by rw[g3];exact h1,by rw[g2];exact h2⟩
 | .ptr o off,u,h=>by
  obtain⟨x,hx,rfl,h1,g,h2,h3⟩:=h
  obtain⟨y,hy,g1,g2,g3,g4⟩:=he x hx
  exact⟨y,hy,g1,by rw[g3];exact h1,g,by rw[g2];exact h2,h3⟩
 | .pr o i off,u,h=>by
  obtain⟨x,hx,rfl,h1,g,z,h2,h3,h4,h5⟩:=h
  obtain⟨y,hy,g1,g2,g3,g4⟩:=he x hx
  exact⟨y,hy,g1,by rw[g3];exact h1,g,z,by rw[g2];exact h2,by rw[g4];exact h3,by rw[g4];exact h4,h5⟩
 | .pd e off,u,h=>by
  obtain⟨b,o,us,F,h1,h2,h3,h4,h5⟩:=h
  exact⟨b,o,us,F,h1,h2,h3,hI b h4,fun c hc=>hI c (h5 c hc)⟩
 | .agg xs,u,h=>by
  obtain⟨us,h1,h2⟩:=h
  exact⟨us,h1,Wl hI he xs us h2⟩
 | .tup xs,u,h=>by
  obtain⟨us,h1,h2⟩:=h
  exact⟨us,h1,Wl hI he xs us h2⟩
 | .clo g xs,u,h=>by
  obtain⟨us,h1,h2⟩:=h
  exact⟨us,h1,Wl hI he xs us h2⟩
 | .sub o i j,u,h=>by
  obtain⟨x,hx,rfl,h1,h2,A,n,c,z,h3,h4,h5⟩:=h
  obtain⟨y,hy,g1,g2,g3,g4⟩:=he x hx
  exact⟨y,hy,g1,by rw[g3];exact h1,by rw[g4];exact h2,A,n,c,z,by rw[g2];exact h3,by rw[g4];exact h4,h5⟩
theorem Wl(hI:∀b,I b->I' b)(he:∀x∈en,∃y∈en',y.nm=γ x.nm/\y.val=x.val/\y.ao.isRow=x.ao.isRow/\y.ao.lens=x.ao.lens):∀(xs:List AV) (us:List Value),Qn w en I xs us->Qn w en' I' (Qa5 γ xs) us
 | [],_,h=>h
 | x::xs,us,h=>by
  obtain⟨u,us',h1,h2,h3⟩:=h
  exact⟨u,us',h1,AV.shows_mapN hI he x u h2,Wl hI he xs us' h3⟩
end
end
def Qeh:List Nat->List (Nat×AO)->List (Nat×AO)
 | p::ρ,(_,ao)::l=>(p,ao)::Qeh ρ l
 | _,_=>[]
def inN(ρ:List Nat)(p:Nat):Bool:=ρ.any fun q=>Nat.beq q p
theorem Qi3{ρ:List Nat}{p:Nat}:inN ρ p=true↔p∈ρ:=by
 unfold inN
 rw[XaX]
 exact⟨fun⟨q,h1,h2⟩=>(Qg _ _).1 h2▸h1,fun h=>⟨p,h,(Qg _ _).2 rfl⟩⟩
def QhU(ρ:List Nat)(ob:List (Nat×AO)):List (Nat×AO):=ob.filter fun y=>!inN ρ y.1
theorem QbH{σ:AS}:∀{ρ:List Nat} {n:Nat} {obs:List (Nat×AO)},σ.handed n ρ=some obs->obs.map Prod.fst=(List.range' n ρ.length)
 | [],n,obs,h=>by injection h with h;subst h;rfl
 | p::ρ,n,obs,h=>by
  simp only[AS.handed]at h
  split at h
  ·split at h
   ·rename_i l hl
    injection h with h;subst h
    simp only[Xaw,QbH hl,Xar,List.range'_succ]
   ·cases h
  ·cases h
theorem QgU{t:Nat}{ρ0:List Nat}:∀{ρ:List Nat} {n:Nat} {l:List (Nat×AO)},l.map Prod.fst=List.range' n ρ.length->1000000<=n->(∀j,j<ρ.length->ρ0.getD (n+j-1000000) 0=ρ.getD j 0)->Qeh ρ l=l.map fun y=>(Jv t ρ0 y.1,y.2)
 | [],n,[],_,_,_=>rfl
 | p::ρ,n,(m,ao)::l,h,hn,hg=>by
  simp only[Xaw,Xar,List.range'_succ,Xbw]at h
  obtain⟨rfl,h⟩:=h
  have h0:=hg 0 (by simp)
  have h1:fre0 m=false:=by unfold fre0;rw[<-XbA,Nat.blt_eq];omega
  simp only[Qeh,Xaw,Xbw,Xcd,and_true]
  refine⟨?_,QgU h (by omega) (fun j hj=>?_)⟩
  ·unfold Jv
   rw[h1]
   exact h0.symm
  ·have:=hg (j+1) (by simpa using hj)
   rw[show m+(j+1)=m+1+j by omega]at this
   exact this
theorem QcP{t:Nat}{ρ:List Nat}:∀{l:List (Nat×AO)},(l.all fun y=>fre0 y.1)=true->Wr t l=l.map fun y=>(Jv t ρ y.1,y.2)
 | [],_=>rfl
 | (n,ao)::l,h=>by
  simp only[XcE,Xaf]at h
  have h1:Jv t ρ n=Jo t n:=by unfold Jv;rw[h.1];rfl
  rw[Wr,Xaw,QcP (ρ:=ρ) h.2,h1]
def QbU(f:Nat->Bool)(t:Nat)(ob:List (Nat×AO)):List (Nat×AO)->Bool
 | []=>true
 | (i,_)::l=>Yz f (Jo t i) ob&&QbU f t ob l
theorem QcZ{f:Nat->Bool}{t:Nat}{ob:List (Nat×AO)}:∀{l:List (Nat×AO)},QbU f t ob l=true->∀y∈l,Yz f (Jo t y.1) ob=true
 | (i,ao)::l,h,y,hy=>by
  simp only[QbU,Xaf]at h
  rcases Xaj.1 hy with rfl|hy
  ·exact h.1
  ·exact QcZ h.2 y hy
theorem JO.mmerge{X:Cx}{σ:AS}{a:Act}{w w':World}{en eh er:List Ent}{t:Nat}{ρ:List Nat}{obs obs' rob:List (Nat×AO)}{r:AV}{v:Value}(h:JO X σ a w en)(hρ:ρ.Nodup)(hob:σ.handed 1000000 ρ=some obs)
  (g1:eh.map Ent.key=obs) (g2:∀y∈eh,∃x∈en,x.nm∈ρ/\y={ x with nm:=y.nm }/\1000000<=y.nm/\ρ.getD (y.nm-1000000) 0=x.nm) (g5:∀j,j<ρ.length->∀x∈en,x.nm=ρ.getD j 0->{ x with nm:=1000000+j }∈eh) (g6:∀p∈ρ,∃x∈en,x.nm=p)
  (m:Mem X.P w (ZH (IM X en w) eh) (OH eh) er w') (hk:(er.map Ent.key).Perm (rob++obs')) (hr:r.shows w' er (Imm w (ZH (IM X en w) eh) (OH eh) er w') v) (hsame:QeT obs obs') (hflat:Qam obs')
  (hf:QbU X.fre t σ.ob rob=true) (hbx:boxB rob=true) (hr0:(rob.all fun y=>fre0 y.1)=true) (ht:Nat.blt t σ.nt=true):Rel X ⟨σ.nt,(t,r.mapN (Jv t ρ))::σ.sl,Wr t rob++(Qeh ρ obs'++QhU ρ σ.ob)⟩ (a.put (some t) v) w':=by
 have m0:=h.mem
 have hnames:=(QbN hsame).trans (QbH hob)
 let g:Ent->Ent:=fun y=>{ y with nm:=Jv t ρ y.nm }
 let rest:List Ent:=en.filter fun x=>!inN ρ x.nm
 have hrest:∀{x:Ent},x∈rest↔x∈en/\x.nm∉ρ:=by
  intro x
  simp only[rest,XaF,Xa6,<-XbA,Qi3]
 have hlt:∀y∈en,∀b,y.hd b->b<w.heap.size:=fun y hy b hb=>((m0.ok y hy).lth hb).1
 have hOH:∀b,OH eh b->∃x∈en,x.nm∈ρ/\x.hd b:=fun b ⟨y,hy,hb⟩=>by
  obtain⟨x,hx,hxn,e,_⟩:=g2 y hy
  rw[e]at hb
  exact⟨x,hx,hxn,hb⟩
 have hfo:∀y∈obs',fre0 y.1=false/\1000000<=y.1/\y.1-1000000<ρ.length:=fun y hy=>by
  have:y.1∈List.range' 1000000 ρ.length:=hnames▸Xad.2 ⟨y,hy,rfl⟩
  rw[List.mem_range'_1]at this
  refine⟨by unfold fre0;rw[<-XbA,Nat.blt_eq];omega,this.1,by omega⟩
 -- the callee's entries at the end: new rows,or what was handed
 have hcase:∀y∈er,(fre0 y.nm=true/\y.key∈rob/\True/\Yz X.fre (Jo t y.nm) σ.ob=true)\/(fre0 y.nm=false/\y.key∈obs'/\∃x∈en,x.nm∈ρ/\y.val=x.val/\Jv t ρ y.nm=x.nm):=fun y hy=>by
  have hm:=hk.mem_iff.1 (Xad.2 ⟨y,hy,rfl⟩)
  rcases Xag.1 hm with hm|hm
  ·have h1:=QcZ hf y.key hm
   exact .inl ⟨XaD.1 hr0 y.key hm,hm,trivial,h1⟩
  ·obtain⟨k1,k2,k3⟩:fre0 y.nm=false/\1000000<=y.nm/\y.nm-1000000<ρ.length:=hfo _ hm
   obtain⟨z,hz,hzn⟩:=g6 (ρ.getD (y.nm-1000000) 0) (by rw[List.getD_eq_getElem?_getD,List.getElem?_eq_getElem k3];exact Xbf k3)
   have h2:=g5 _ k3 z hz hzn
   have e1:1000000+(y.nm-1000000)=y.nm:=by omega
   have h3:=m.fix y hy k1 _ h2 e1
   refine .inr ⟨k1,hm,z,hz,?_,h3,?_⟩
   ·rw[hzn,List.getD_eq_getElem?_getD,List.getElem?_eq_getElem k3];exact Xbf k3
   ·unfold Jv
    rw[show fre0 y.nm=false from k1]
    exact hzn.symm
 have hhand:∀x∈en,x.nm∈ρ->∃y∈er,fre0 y.nm=false/\y.val=x.val/\Jv t ρ y.nm=x.nm/\y.ao.isRow=x.ao.isRow/\y.ao.lens=x.ao.lens:=fun x hx hxρ=>by
  obtain⟨j,hj,e⟩:=Xba hxρ
  have e':x.nm=ρ.getD j 0:=by rw[List.getD_eq_getElem?_getD,List.getElem?_eq_getElem hj,<-e];rfl
  have h1:=g5 j hj x hx e'
  have h2:((1000000+j,x.ao):Nat×AO)∈obs:=g1▸Xad.2 ⟨_,h1,rfl⟩
  obtain⟨y',hy',k1,k2,k3⟩:=Qks hsame h2
  have h3:=hk.mem_iff.2 (Xav rob hy')
  obtain⟨y,hy,e2⟩:=Xad.1 h3
  have hf1:=(hfo _ hy').1
  have hyn:y.nm=1000000+j:=by have:=congrArg Prod.fst e2;exact this.trans k1
  have hya:y.ao=y'.2:=congrArg Prod.snd e2
  have hf2:fre0 y.nm=false:=by rw[hyn];rw[k1]at hf1;exact hf1
  have hv:y.val=x.val:=m.fix y hy hf2 ⟨1000000+j,x.ao,x.val,x.fs⟩ h1 hyn.symm
  refine⟨y,hy,hf2,hv,?_,by rw[hya];exact k2,by rw[hya];exact k3⟩
  unfold Jv
  rw[hf2,hyn]
  rw[show 1000000+j-1000000=j by omega]
  exact e'.symm
 have hrestO:∀z∈rest,∀b,z.hd b->¬OH eh b:=fun z hz b hb hO=>by
  obtain⟨x,hx,hxρ,hb'⟩:=hOH b hO
  rw[hrest]at hz
  exact m0.hd_ne hx hz.1 (fun e=>hz.2 (e▸hxρ)) hb' hb
 have hIO:∀b,IM X en w b->¬OH eh b:=fun b hb hO=>by
  obtain⟨x,hx,_,hb'⟩:=hOH b hO
  exact hb.2.2 x hx hb'
 have hS:∀b,IM X en w b->Same w w' b:=fun b hb=>m.old b hb.2.1 (hIO b hb)
 have hFO:∀b,OH eh b->Frs X.w0 X.O b:=fun b hO=>by
  obtain⟨x,hx,_,hb⟩:=hOH b hO
  exact((m0.ok x hx).lth hb).2
 have hFr:∀b,Frs w (OH eh) b->Frs X.w0 X.O b:=fun b hb=>by
  rcases hb with hb|hb
  ·exact hFO b hb
  ·exact .inr (Xao m0.size hb)
 have hI0:∀b,IM X en w b->Imm X.w0 X.Z X.O (er.map g++rest) w' b:=fun b hb=>⟨hb.1,XaL hb.2.1 m.size,fun y hy=>by
  rcases Xag.1 hy with hy|hy
  ·obtain⟨z,hz,rfl⟩:=Xad.1 hy
   intro e
   rcases((m.ok z hz).lth (x:=z) e).2 with h1|h1
   ·exact hIO b hb h1
   ·have:=hb.2.1
    omega
  ·exact hb.2.2 y (hrest.1 hy).1⟩
 have hIr:∀b,Imm w (ZH (IM X en w) eh) (OH eh) er w' b->Imm X.w0 X.Z X.O (er.map g++rest) w' b:=fun b hb=>by
  refine⟨?_,hb.2.1,fun y hy=>?_⟩
  ·rcases hb.1 with h1|h1|h1
   ·exact(show IM X en w b from h1).1
   ·exact .inr (hFO b h1)
   ·exact .inr (.inr (Xao m0.size h1))
  ·rcases Xag.1 hy with hy|hy
   ·obtain⟨z,hz,rfl⟩:=Xad.1 hy
    exact hb.2.2 z hz
   ·intro e
    have h2:=hlt y (hrest.1 hy).1 b e
    rcases hb.1 with h1|h1|h1
    ·exact(show IM X en w b from h1).2.2 y (hrest.1 hy).1 e
    ·exact hrestO y hy b e h1
    ·omega
 have hL:∀x∈en,∃y∈er.map g++rest,Like x y:=fun x hx=>by
  by_cases hxρ:x.nm∈ρ
  ·obtain⟨y,hy,_,k2,k3,k4,k5⟩:=hhand x hx hxρ
   exact⟨g y,Xat _ (Xad.2 ⟨y,hy,rfl⟩),k3,k2,k4,k5⟩
  ·exact⟨x,Xav _ (hrest.2 ⟨hx,hxρ⟩),rfl,rfl,rfl,rfl⟩
 have hinj:∀x∈er,∀y∈er,Jv t ρ x.nm=Jv t ρ y.nm->x.nm=y.nm:=fun x hx y hy e=>by
  have hfresh:∀x∈er,∀y∈er,fre0 x.nm=true->Yz X.fre (Jo t x.nm) σ.ob=true->(∃z∈en,z.nm∈ρ/\Jv t ρ y.nm=z.nm)->Jv t ρ x.nm=Jv t ρ y.nm->False:=fun x _ y _ k1 k2 ⟨z,hz,_,k3⟩ e=>by
   have h3:=(Q0 k2).1
   have:hasN (Jo t x.nm) σ.ob=true:=Q9.2 ⟨z.key,h.ob.mem_iff.1 (Xad.2 ⟨z,hz,rfl⟩),by
    have:Jv t ρ x.nm=Jo t x.nm:=by unfold Jv;rw[k1];rfl
    rw[<-this,e,k3];rfl⟩
   rw[h3]at this;cases this
  rcases hcase x hx with ⟨k1,_,_,k2⟩|⟨k1,k2,z,hz,hzρ,k3,k4⟩ <;> rcases hcase y hy with ⟨l1,_,_,l2⟩|⟨l1,l2,q,hq,hqρ,l3,l4⟩
  ·unfold Jv at e
   rw[k1,l1]at e
   exact Qew e
  ·exact(hfresh x hx y hy k1 k2 ⟨q,hq,hqρ,l4⟩ e).elim
  ·exact(hfresh y hy x hx l1 l2 ⟨z,hz,hzρ,k4⟩ e.symm).elim
  ·obtain⟨_,a2,a3⟩:=hfo _ k2
   obtain⟨_,b2,b3⟩:=hfo _ l2
   have a2':1000000<=x.nm:=a2
   have a3':x.nm-1000000<ρ.length:=a3
   have b2':1000000<=y.nm:=b2
   have b3':y.nm-1000000<ρ.length:=b3
   unfold Jv at e
   rw[k1,l1]at e
   simp only[cond_false,List.getD_eq_getElem?_getD,List.getElem?_eq_getElem a3',List.getElem?_eq_getElem b3',XaP]at e
   have:=(XcJ (h₀:=a3') (h₁:=b3') hρ).1 e
   omega
 have hmem:Mem X.P X.w0 X.Z X.O (er.map g++rest) w':=by
  refine⟨m.os.trans m0.os,m.tape.trans m0.tape,m.output.trans m0.output,Xao m0.size m.size,fun b hb hO=>(m.old b (XaL hb m0.size) fun hO'=>?_).trans (m0.old b hb hO),?_,?_,?_,?_,fun y hy=>?_⟩
  ·rcases hFO b hO' with h1|h1
   ·exact hO h1
   ·omega
  ·rw[XaI,Xbe]
   refine⟨?_,Xbs (XbF _ XaE) m0.names,?_⟩
   ·rw[XaS]
    have h3:=m.names
    unfold List.Nodup at h3 ⊢
    rw[Xbg]at h3 ⊢
    exact h3.imp_of_mem fun hx hy hxy e=>hxy (hinj _ hx _ hy e)
   ·intro n hn n' hn' e
    subst e
    obtain⟨y,hy,e1⟩:=Xad.1 hn
    obtain⟨z,hz,rfl⟩:=Xad.1 hy
    obtain⟨q,hq,e2⟩:=Xad.1 hn'
    rw[hrest]at hq
    have e3:Jv t ρ z.nm=q.nm:=e1.trans e2.symm
    rcases hcase z hz with ⟨k1,_,_,k2⟩|⟨_,_,x,hx,hxρ,_,k4⟩
    ·have h3:=(Q0 k2).1
     have:hasN (Jo t z.nm) σ.ob=true:=Q9.2 ⟨q.key,h.ob.mem_iff.1 (Xad.2 ⟨q,hq.1,rfl⟩),by
      have:Jv t ρ z.nm=Jo t z.nm:=by unfold Jv;rw[k1];rfl
      rw[<-this,e3];rfl⟩
     rw[h3]at this;cases this
    ·exact hq.2 (by rw[<-e3,k4];exact hxρ)
  ·rw[Xbc]
   refine⟨XaW _ (fun x y hxy=>hxy) m.blks,Xa0 XaE m0.blks,fun y hy z hz b hb hb'=>?_⟩
   obtain⟨q,hq,rfl⟩:=Xad.1 hy
   have hz':=hrest.1 hz
   rcases((m.ok q hq).lth (x:=q) hb).2 with h1|h1
   ·exact hrestO z hz b hb' h1
   ·have h2:=hlt z hz'.1 b hb'
    omega
  ·intro y hy
   rcases Xag.1 hy with hy|hy
   ·obtain⟨z,hz,rfl⟩:=Xad.1 hy
    have hok:=m.ok z hz
    unfold EntOk at hok
    split at hok
    ·rename_i e es dp hao
     obtain⟨s,us,k0,k1,k2,k3,k4,k5,k6,k7⟩:=hok
     unfold EntOk
     simp only[g,hao]
     exact⟨s,us,k0,k1,k2,k3,k4,fun hd b hb=>hIr b (k5 hd b hb),fun q hq=>hFr q (k6 q hq),fun hd=>⟨(k7 hd).1,fun b hb=>⟨hFr b ((k7 hd).2.1 b hb).1,((k7 hd).2.1 b hb).2⟩,(k7 hd).2.2⟩⟩
    ·rename_i e cs hao
     obtain⟨k0,q,cur,k1,k2,k3,k4⟩:=hok
     have hc:okpL (fun _=>false) cs=true:=by
      rcases hcase z hz with ⟨_,k,_,_⟩|⟨_,k,_⟩
      ·exact Qak hbx (n:=z.nm) (e:=e) (by rw[<-hao];exact k)
      ·exact VD hflat (n:=z.nm) (e:=e) (by rw[<-hao];exact k)
     unfold EntOk
     simp only[g,hao]
     exact⟨k0,q,cur,k1,hFr q k2,k3,ZT (Xam _) (fun _ _=>rfl) hIr hc k4⟩
   ·have hy':=hrest.1 hy
    have h3:=(m0.ok y hy'.1).mono (p:=fun _=>true) (w':=w') (en':=er.map g++rest) (I':=IM X (er.map g++rest) w') (Fr':=Frs X.w0 X.O) m.size hS hI0 (fun _ hb=>hb) (fun b hb=>m.old b (hlt y hy'.1 b hb) (hrestO y hy b hb)) (fun x hx _=>hL x hx)
    have e:y.cut (fun _=>true)=y:=by cases y;simp[Ent.cut,AO.cut_true]
    rwa [e]at h3
  ·rw[Xbc]
   refine⟨XaW _ (fun x y hxy=>hxy) m.apart,Xa0 XaE m0.apart,fun y hy z hz hdy hdz b hb hb'=>?_⟩
   obtain⟨q,hq,rfl⟩:=Xad.1 hy
   have hz':=hrest.1 hz
   have hzd:z.hd b:=.inr ⟨hdz,hb'⟩
   rcases((m.ok q hq).lth (x:=q) (.inr ⟨hdy,hb⟩)).2 with h1|h1
   ·exact hrestO z hz b hzd h1
   ·have:=hlt z hz'.1 b hzd;omega
  ·rcases Xag.1 hy with hy|hy
   ·obtain⟨z,hz,rfl⟩:=Xad.1 hy
    rcases hcase z hz with ⟨k1,_,_,k2⟩|⟨_,_,x,hx,_,k3,k4⟩
    ·have:Jv t ρ z.nm=Jo t z.nm:=by unfold Jv;rw[k1];rfl
     show X.Z.fx (Jv t ρ z.nm) z.val
     rw[this]
     exact X.Z.lo _ _ (Q0 k2).2
    ·show X.Z.fx (Jv t ρ z.nm) z.val
     rw[k4,k3]
     exact m0.fix x hx
   ·exact m0.fix y (hrest.1 hy).1
 have h2:JO X ⟨σ.nt,σ.sl,Wr t rob++(Qeh ρ obs'++QhU ρ σ.ob)⟩ a w' (er.map g++rest):=by
  refine⟨hmem,?_,h.defers,h.size,fun s=>AV.shows_mono m.size hS hI0 hL (h.slots s)⟩
  rw[XaI,<-Xaq]
  have e1:Wr t rob++Qeh ρ obs'=(rob++obs').map fun y=>(Jv t ρ y.1,y.2):=by
   rw[XaI,QcP (ρ:=ρ) hr0,QgU (t:=t) (ρ0:=ρ) hnames (Xam _) (fun j hj=>by rw[show 1000000+j-1000000=j by omega])]
  have e2:(er.map g).map Ent.key=(er.map Ent.key).map fun y=>(Jv t ρ y.1,y.2):=by simp only[XaS];rfl
  have e3:rest.map Ent.key=QhU ρ (en.map Ent.key):=by
   simp only[rest,QhU,XbO]
   rfl
  rw[e1,e2,e3]
  exact XcI (hk.map _) (h.ob.filter _)
 exact⟨_,h2.put (AV.shows_mapN hIr (fun x hx=>⟨g x,Xat _ (Xad.2 ⟨x,hx,rfl⟩),rfl,rfl,rfl,rfl⟩) r v hr) ht⟩
section
variable {X:Cx} {σ:AS} {o:Oper} {K:AS->Prop} {t:Nat}
theorem Qe1{ι:Type}{f:FuncId}{xs:List AV}{obs:List (Nat×AO)}{ok:ι->Prop}{rs:ι->List AV}{obs' rob:ι->List (Nat×AO)}(ρ:List Nat)(hc:MCalls X.P f xs obs ok rs obs' rob)
  (hx:∀a w en,JO X σ a w en->∃us:List Value,(execOp a.eval o).run X.P w=(callFunc f us.toArray).run X.P w/\∀(eh:List Ent) (I':Nat->Prop),(∀b,IM X en w b->I' b)->(∀j,j<ρ.length->∀x∈en,x.nm=ρ.getD j 0->{ x with nm:=1000000+j }∈eh)->Qn w eh I' xs us)
  (hd:o.dst=some t) (hob:σ.handed 1000000 ρ=some obs) (hn:YI ρ=true)
  (hf:∀i,ok i->(QbU X.fre t σ.ob (rob i)&&(rob i).all fun y=>fre0 y.1)=true) (ht:Nat.blt t σ.nt=true)
  (hK:∀i,ok i->K ⟨σ.nt,(t,(one (rs i)).mapN (Jv t ρ))::σ.sl,Wr t (rob i)++(Qeh ρ (obs' i)++QhU ρ σ.ob)⟩):OpOk X o σ K:=by
 intro a w hr next Q hnx
 obtain⟨en,h⟩:=hr
 have m0:=h.mem
 have hρ:=YR hn
 obtain⟨eh,g1,g2,g3,g4,g5,g6⟩:=Qd9 h ρ 1000000 obs hρ hob
 obtain⟨⟨hfl,hsm⟩,hcall⟩:=hc
 have hIeh:∀b,IM X en w b->Imm w (ZH (IM X en w) eh) (OH eh) eh w b:=fun b hb=>⟨.inl hb,hb.2.1,fun y hy e=>by
  obtain⟨x,hx,_,e',_⟩:=g2 y hy
  rw[e']at e
  exact hb.2.2 x hx e⟩
 have hm:Mem X.P w (ZH (IM X en w) eh) (OH eh) eh w:=by
  refine⟨rfl,rfl,rfl,Xam _,fun _ _ _=>rfl,g4,g3,fun y hy=>?_,?_,fun y hy _ x hx e=>?_⟩
  ·obtain⟨x,hx,_,e,_⟩:=g2 y hy
   have hkey:y.key∈obs:=g1▸Xad.2 ⟨y,hy,rfl⟩
   have hao:y.ao=x.ao:=by rw[e]
   have hfs':x.fs=y.fs:=by rw[e]
   have hval:y.val=x.val:=by rw[e]
   have hok:=m0.ok x hx
   unfold EntOk at hok
   split at hok
   ·rename_i e1 es dp hx'
    obtain⟨z,us,k0,k1,k2,k3,k4,k5,k6,k7⟩:=hok
    unfold EntOk
    rw[hao,hx']
    refine⟨z,us,k0,k1,by rw[hval];exact k2,k3,by rw[<-hfs'];exact k4,fun hd b hb=>hIeh b (k5 hd b (by rw[hfs'];exact hb)),fun b hb=>.inl ⟨y,hy,.inl hb⟩,fun hd=>⟨by rw[<-hfs'];exact(k7 hd).1,fun b hb=>⟨.inl ⟨y,hy,.inr ⟨by rw[hao,hx'];exact hd,hb⟩⟩,?_⟩,(k7 hd).2.2⟩⟩
    ·rw[<-hfs']at hb
     rw[hval]
     exact((k7 hd).2.1 b hb).2
   ·rename_i e1 cs hx'
    obtain⟨k0,q,cur,k1,k2,k3,k4⟩:=hok
    have hc:okpL (fun _=>false) cs=true:=VD hfl (n:=y.nm) (e:=e1) (by rw[<-hx',<-hao];exact hkey)
    unfold EntOk
    rw[hao,hx']
    refine⟨by rw[<-hfs'];exact k0,q,cur,by rw[hval];exact k1,.inl ⟨y,hy,.inl (by rw[hval,k1];rfl)⟩,k3,ZT (Xam _) (fun _ _=>rfl) hIeh hc k4⟩
  ·exact g3.imp fun h hx hy b hb hb'=>h b (.inr ⟨hx,hb⟩) (.inr ⟨hy,hb'⟩)
  ·rw[QcX g4 hx hy e]
 obtain⟨us,hrun,hsh⟩:=hx a w en h
 obtain⟨h2,h3⟩:=hcall w (IM X en w) eh us hm g1 (hsh eh _ hIeh g5)
 unfold Oper.wp
 rw[hrun,h2,Oper.upon_enter]
 refine h3.mono fun e w' ⟨i,v,er,⟨hi,hbx⟩,he,m,hk,hr⟩=>?_
 subst he
 rw[hd]
 obtain⟨hs1,hs2⟩:=hsm i hi
 have hf':=hf i hi
 rw[Xaf]at hf'
 exact hnx _ _ _ (hK i hi) (h.mmerge hρ hob g1 g2 g5 g6 m hk hr hs1 hs2 hf'.1 hbx hf'.2 ht)
theorem QjV{ι:Type}{f:FuncId}{as:Array Operand}{ats:Array TypeId}{xs:List AV}{obs:List (Nat×AO)}{ok:ι->Prop}{rs:ι->List AV}{obs' rob:ι->List (Nat×AO)}(ρ:List Nat)(hc:MCalls X.P f xs obs ok rs obs' rob)
  (ho:o.op=.call { callee:=.value (.func f),args:=as,argTypes:=ats }) (hd:o.dst=some t) (hx:σ.handA ρ as.toList=some xs) (hob:σ.handed 1000000 ρ=some obs) (hn:YI ρ=true)
  (hf:∀i,ok i->(QbU X.fre t σ.ob (rob i)&&(rob i).all fun y=>fre0 y.1)=true) (ht:Nat.blt t σ.nt=true)
  (hK:∀i,ok i->K ⟨σ.nt,(t,(one (rs i)).mapN (Jv t ρ))::σ.sl,Wr t (rob i)++(Qeh ρ (obs' i)++QhU ρ σ.ob)⟩):OpOk X o σ K:=
 Qe1 ρ hc (fun a w _ h=>⟨_,Y5 ho a w,fun _ _ hI he=>XT h hI he hx⟩) hd hob hn hf ht hK
end
end
section
section
variable {X:Cx} {σ:AS} {o:Oper} {K:AS->Prop} {t:Nat}
end
theorem Qbi{P:Program}{w:World}(t u ty e:TypeId)(i:TypeInfo)(ht:P.underlying t=some (.slice e))(hu:P.underlying u=some .string)(hi:P.info? e=some i)(hz:i.zero=some (.int .u8 0))(hsize:i.size=1)(hby:i.bytes=1)
  (v:Value) (n:Nat) (xs:List Value) (hown:w.ownsRow 0 e 1 v n xs) (s:ByteArray) (h63:n+s.size<=1099511627776) :
  ∃v' w',(Builtin.append_ #[t,u] ty #[v,.string s]).run P w=.ok v' w'/\w'.ownsRow 0 e 1 v' (n+s.size) (xs++Lib.strCells s)/\w.grownBy w' v.ownBlock/\∀b,blk v'=some b->w.heap.size<=b\/blk v=some b:=by
 have hmx:n+s.size<=maxLen:=by unfold maxLen;omega
 rcases hown.2 with ⟨hv,hn⟩|⟨g,cap,cur,hv,hbg,hg,hnc,hcm,hcs,htake⟩
 ·subst hv;subst hn
  have hxs:xs=[]:=XaA (by rw[hown.1,Xbh])
  subst hxs
  obtain⟨v',w',r1,r2,r3,r4⟩:=Lib.run_append_own_string (P:=P) w w.heap.size t u ty e i ht hu hi hz hsize hby (.slice none 0 0) 0 [] (World.ownsRow_nil w w.heap.size e 1) s hmx (by omega) (Xam _)
  refine⟨v',w',r1,⟨r2.1,?_⟩,r3,fun b hb=>?_⟩
  ·rcases r2.2 with h|⟨g,cap,cur,a1,a2,a3,a4⟩
   ·exact .inl h
   ·exact .inr ⟨g,cap,cur,a1,Xab _,a3,a4⟩
  ·rcases r2.2 with ⟨h,_⟩|⟨g,cap,cur,a1,a2,a3,a4⟩
   ·rw[h]at hb;cases hb
   ·rw[a1]at hb
    simp only[blk,Xal]at hb
    subst hb
    exact .inl a2
 ·obtain⟨v',w',r1,r2,r3,r4⟩:=Lib.run_append_own_string (P:=P) w 0 t u ty e i ht hu hi hz hsize hby v n xs hown s hmx (by omega) (Xab _)
  refine⟨v',w',r1,r2,r3,fun b hb=>?_⟩
  subst hv
  by_cases hroom:n+s.size<=cap
  ·have hr:=Lib.run_append_room_string (P:=P) w t u ty e i ht hu hi hsize g n cap cur hg s hroom (by rw[hcs];omega)
   rw[r1]at hr
   injection hr with e1 e2
   rw[e1]at hb
   exact .inr hb
  ·have holds:∀j u,xs[j]?=some u->w.cell? ((⟨g,0,none⟩:Addr).add j)=some u:=hown.cells (g:=g) rfl
   have hr:=Lib.run_append_grow_string (P:=P) w t u ty e i (.int .u8 0) ht hu hi hz ⟨g,0,none⟩ n cap xs (by rw[hsize];exact hown.1) holds s (by omega) (by omega) (growslice_fits_wide (by omega) (by rw[hby];omega))
   rw[r1]at hr
   injection hr with e1 e2
   rw[e1]at hb
   simp only[blk,Xal]at hb
   exact .inl (XbR hb)
section
variable {X:Cx} {σ:AS} {o:Oper} {K:AS->Prop} {t:Nat}
end
theorem JN{α:Type}{f:α->List D}{z:Nat}(hf:∀a,(f a).length=z){l l':List α}(h:l.length=l'.length):(l.map f).map List.length=(l'.map f).map List.length:=by
 have e:∀(l:List α),(l.map f).map List.length=List.replicate l.length z:=fun l=>by
  rw[XaS,List.eq_replicate_iff]
  refine⟨by simp,fun n hn=>?_⟩
  obtain⟨a,_,rfl⟩:=Xad.1 hn
  exact hf a
 rw[e,e,h]
theorem QeF{l l':List UInt8}(h:l.length=l'.length):(QG l).map List.length=(QG l').map List.length:=JN (f:=fun(b:UInt8)=>[D.n .u8 (b.toNat:Int)]) (fun _=>rfl) h
theorem Qom{α:Type}{f:α->List D}{l:List α}{i j:Nat}:((l.map f).take j).drop i=((l.take j).drop i).map f:=by simp[List.map_take,List.map_drop]
theorem Jc{α:Type}{f:α->List D}{l:List α}{i j:Nat}(h:j<=l.length):(((l.map f).take j).drop i).length=j-i:=by simp;omega
theorem ZN{α:Type}{f:α->List D}{l:List α}{i j z:Nat}(h:∀a,(f a).length=z):lenE (((l.map f).take j).drop i) z:=by
 rw[Qom];exact Xi h
theorem QaY{α:Type}{f:α->List D}{l:List α}{i j:Nat}(h:∀a,(f a).all D.flat1=true):YT (((l.map f).take j).drop i)=true:=by
 rw[Qom];exact QN h
def cpyL{α:Type}(l:List α)(z:α)(i:Nat):List α:=l.take i++List.replicate (l.length-i) z
theorem JR{α:Type}(l:List α)(z:α):cpyL l z 0=List.replicate l.length z:=by simp[cpyL]
theorem Ym{α:Type}(l:List α)(z:α):cpyL l z l.length=l:=by simp[cpyL]
theorem Qw{α:Type}(l:List α)(z:α){i:Nat}(h:i<=l.length):(cpyL l z i).length=l.length:=by simp[cpyL];omega
theorem Yl{α β:Type}[Inhabited α]{f:α->β}{l:List α}{z:α}{i:Nat}(h:i<l.length):((cpyL l z i).map f).set i (f (nth l i))=(cpyL l z (i+1)).map f:=by
 have h1:nth l i=l[i]:=by simp[nth,List.getD,h]
 rw[<-XbJ,h1]
 congr 1
 unfold cpyL
 obtain⟨k,hk⟩:∃k,l.length-i=k+1:=⟨l.length-i-1,by omega⟩
 rw[hk,show l.length-(i+1)=k by omega,List.replicate_succ,XaB h]
 have hl:(l.take i).length=i:=by rw[Xai];omega
 rw[Xbu _ _ (by omega),hl,XbX,Xbt,Xaq]
 rfl
def JM{α:Type}(g:Nat->α)(n:Nat):List α:=(List.range n).map g
theorem QF{α:Type}(g:Nat->α)(n:Nat):(JM g n).length=n:=by simp[JM]
theorem VF{α:Type}[Inhabited α]{g:Nat->α}{n i:Nat}(h:i<n):nth (JM g n) i=g i:=by simp[nth,JM,List.getD,h]
def mkL{α:Type}(g:Nat->α)(l:List α)(i:Nat):List α:=JM g i++l.drop i
theorem Qbx{α:Type}(g:Nat->α)(l:List α):mkL g l l.length=JM g l.length:=by simp[mkL]
theorem JU{α:Type}(g:Nat->α)(l:List α){i:Nat}(h:i<=l.length):(mkL g l i).length=l.length:=by simp[mkL,JM];omega
theorem Qta{α β:Type}{f:α->β}{g:Nat->α}{l:List α}{i:Nat}(h:i<l.length):((mkL g l i).map f).set i (f (g i))=(mkL g l (i+1)).map f:=by
 rw[<-XbJ]
 congr 1
 unfold mkL
 have hl:(JM g i).length=i:=QF g i
 rw[Xa4 h,Xbu _ _ (by omega),hl,XbX,Xbt]
 simp[JM,List.range_succ]
section
variable {X:Cx} {σ:AS} {o:Oper} {K:AS->Prop} {t:Nat} {p q:Int} {xt yt:TypeId} {x y:Operand}
end
structure Later (p:Prop):Prop where
 go:p
structure RetG {ι:Type} (X:Cx) (fn:Func) (ok:ι->Prop) (rs:ι->List AV) (obs' rob:ι->List (Nat×AO)) (σ:AS) (i:ι) (ρ:List Nat) (vs:List AV):Prop where
 hv:Later (rs i=vs)
 h2:Qa3 X σ fn.results.toList (Qb1 ρ vs)
 h3:XG σ ρ 0 (rob i)
 h4:obLe σ (obs' i)
 h0:Later (ok i)
theorem QvB(x:UInt8) : -9223372036854775808<=(x.toNat:Int)/\(x.toNat:Int)<=9223372036854775807:=by
 have:=x.toNat_lt
 omega
def mvOf(o:Oper):Option Nat:=match o.op with
 | .move (.tmp t)=>some t
 | .assign (.tmp t)=>some t
 | _=>none
theorem QtQ{X:Cx}{nt:Nat}{o:Oper}{t d:Nat}{v:AV}(hm:mvOf o=some t)(hd:o.dst=some d)(hdt:Nat.blt d nt=true):LoOk X nt o ⟨[(t,v)],[],[],o.dst,v,[],[]⟩:=by
 rintro s a w ⟨σ,hnt,hfs,hr⟩ hp next Q hn
 have hv:look σ.sl t=v:=by
  have:=(Jh.1 hp.rs) (t,v) Xaa
  rw[<-hfs]at this
  exact this
 have hK:QOk X o σ (fun σ'=>σ'=σ.put d v):=by
  unfold mvOf at hm
  split at hm
  ·rename_i u ho
   injection hm with hm
   subst hm
   exact QnA ho hd hv (by rw[hnt];exact hdt) rfl
  ·rename_i u ho
   injection hm with hm
   subst hm
   exact Qg4 ho hd hv (by rw[hnt];exact hdt) rfl
  ·cases hm
 refine hK.ok a w hr next Q (fun σ' a' w' hk hr'=>hn a' w' ⟨σ',?_,?_,hr'⟩)
 ·rw[hk];exact hnt
 ·rw[hk,<-hfs]
  refine Fs.ext ?_ ?_
  ·funext u
   simp only[AS.fs,AS.put,Lo.app,QM,hd,Xal]
   split
   ·rfl
   ·exact(QmD _).symm
  ·funext u
   simp only[AS.fs,AS.put,Lo.app,Qm]
   cases Qm σ.ob u with
   | none=>rfl
   | some z=>exact congrArg some (Qqk z).symm
section
variable {X:Cx} {nt:Nat} {ops:Array Oper} {N:AS->Prop}
theorem ZE{o:Oper}{l:List Oper}{acc:List (Nat×List Nat×Lo)}{i t d:Nat}{σ:AS}{v:AV}(hn:σ.nt=nt)(hg:o.guard=none)(hm:mvOf o=some t)(hd:o.dst=some d)(hv:XF (look σ.sl t) some=some v)(hdt:Nat.blt d σ.nt=true)
  {pr:List Nat} (hpr:Vv (YS o acc) some=some pr) (hind:(acc.all fun y=>(pr.any fun k=>Nat.beq k y.1)||ind y.2.2 ⟨[(t,v)],[],[],o.dst,v,[],[]⟩)=true) (haf:(o.after.toList.all fun e=>!Region.binds .any e||Nat.blt e.on i)=true)
  {σ':AS} (hnx:Xz (Qeq σ ⟨[(t,v)],[],[],o.dst,v,[],[]⟩)=some σ') (hK:ChA X nt ops N l ((i,pr,⟨[(t,v)],[],[],o.dst,v,[],[]⟩)::acc) (i+1) σ'):ChA X nt ops N (o::l) acc i σ:=by
 rw[VI]at hpr
 injection hpr with hpr
 subst hpr
 rw[Qac]at hv
 injection hv with hv
 obtain⟨x1,x2,_⟩:=Qay hnx
 refine⟨⟨[(t,v)],[],[],o.dst,v,[],[]⟩,σ',⟨(QtQ hm hd (by rw[<-hn];exact hdt)).g hg,⟨⟨?_,trivial⟩,trivial,trivial⟩⟩,⟨hind,haf⟩,⟨x1.trans hn,x2.trans (Qcw _ _)⟩,hK⟩
 exact hv
end
end
end Go.Proofs.YtihgfennoalocaaGreat
