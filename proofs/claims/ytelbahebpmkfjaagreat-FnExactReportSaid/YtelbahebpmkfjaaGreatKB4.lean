/-
  Regions that draw their order: each order tried. And nil as an empty list.
-/
import Derived.Test.YtelbahebpmkfjaaGreatKB3
set_option maxRecDepth 100000
set_option maxHeartbeats 16000000
namespace Go.Proofs.YtelbahebpmkfjaaGreat
open Go Go.RowKit

def rdyF (ls:List Bool) (o:Oper):Bool:=o.after.toList.all fun e=>!Region.binds .any e||ls.getD e.on false
def rdyG (ls:List Bool):Nat→List Oper→List Bool→List Nat
 | i,o::l,b::r=>bif b then rdyG ls (i+1) l r else (bif rdyF ls o then i::rdyG ls (i+1) l r else rdyG ls (i+1) l r)
 | _,_,_=>[]
def rdy (l:List Oper) (ls:List Bool):List Nat:=rdyG ls 0 l ls
def QuQ {α:Type}:List Bool→(List Bool→Option α)→Option α
 | [],k=>k []
 | b::l,k=>match b with
  | true=>QuQ l fun l'=>k (true::l')
  | false=>QuQ l fun l'=>k (false::l')
def QxX (X:Cx) (N:AS→Prop):Exit→Act→World→Prop
 | .normal,a,w=>∃σ,N σ∧Rel X σ a w
 | _,_,_=>False
def EnC (X:Cx) (l:List Oper) (N:AS→Prop) (f:Nat) (ls:List Bool) (σ:AS):Prop:=l.length=ls.length→∀a w,Rel X σ a w→wpAny X.P .any l.toArray (QxX X N) f ls.toArray a w
def Qya (X:Cx) (l:List Oper) (N:AS→Prop) (f:Nat) (ls:List Bool) (σ:AS) (is:List Nat):Prop:=∀i∈is,∃o,l[i]?=some o∧o.guard=none∧OpOk X o σ (EnC X l N f (ls.set i true))
def PY (X:Cx) (o:Oper) (σ:AS) (v:AV):Prop:=∀a w en,Rel1 X σ a w en→∃u,(∀w',(execOp a.eval o).run X.P w'=.ok (.value u) w')∧v.shows w en (IM X en w) u
def QwQ:Op→Bool
 | .move _=>true
 | .fieldAddr _ _ _=>true
 | _=>false
def QuS (l:List Oper):List Nat→Option (Nat×Oper)
 | []=>none
 | i::is=>match l[i]? with
  | some o=>bif o.guard.isNone&&QwQ o.op then some (i,o) else QuS l is
  | none=>QuS l is
section
variable {X:Cx} {l:List Oper} {N:AS→Prop} {σ:AS} {f:Nat} {ls:List Bool}
end
section
variable {X:Cx} {σ:AS} {o:Oper}
end

mutual
def AV.den:AV→AV
 | .nil=>.d (.sl [])
 | .agg xs=>.agg (denL xs)
 | .tup xs=>.tup (denL xs)
 | .clo g xs=>.clo g xs
 | .sub o i j=>.sub o i j
 | .any=>.any
 | .d x=>.d x
 | .row o=>.row o
 | .ptr o i=>.ptr o i
 | .pr o i j=>.pr o i j
 | .pd e i=>.pd e i
def denL:List AV→List AV
 | []=>[]
 | x::xs=>x.den::denL xs
end
section
variable {w:World} {en:List Ent} {I:Nat→Prop}
mutual
theorem AV.shows_den:∀(x:AV) (u:Value),x.shows w en I u→x.den.shows w en I u
 | .nil,u,h=>by
  rw [show u=.slice none 0 0 from h]
  exact ⟨[],⟨none,0,0,[],[],rfl,Nat.le_refl _,Nat.zero_le _,fun _=>rfl,by simp,⟨rfl,rfl⟩,.inl ⟨rfl,rfl⟩⟩,by simp⟩
 | .agg xs,u,h=>by
  obtain ⟨us,h1,h2⟩:=h
  exact ⟨us,h1,Qe9 xs us h2⟩
 | .tup xs,u,h=>by
  obtain ⟨us,h1,h2⟩:=h
  exact ⟨us,h1,Qe9 xs us h2⟩
 | .any,_,h=>h
 | .d _,_,h=>h
 | .row _,_,h=>h
 | .ptr _ _,_,h=>h
 | .pr _ _ _,_,h=>h
 | .pd _ _,_,h=>h
 | .clo _ _,_,h=>h
 | .sub _ _ _,_,h=>h
theorem Qe9:∀(xs:List AV) (us:List Value),Qao w en I xs us→Qao w en I (denL xs) us
 | [],_,h=>h
 | x::xs,us,h=>by
  obtain ⟨u,us',h1,h2,h3⟩:=h
  exact ⟨u,us',h1,AV.shows_den x u h2,Qe9 xs us' h3⟩
end
end
end Go.Proofs.YtelbahebpmkfjaaGreat
namespace Go.Proofs.YtelbahebpmkfjaaGreat
open Go Go.RowKit

def AO.den:AO→AO
 | .row e es dp=>.row e es dp
 | .box e cs=>.box e (denL cs)
theorem AO.den_isRow (x:AO):x.den.isRow=x.isRow:=by cases x <;> rfl
theorem AO.den_lens (x:AO):x.den.lens=x.lens:=by cases x <;> rfl
theorem AO.den_deep (x:AO):x.den.deep=x.deep:=by cases x <;> rfl
def AS.dena (σ:AS):AS:={ σ with sl:=σ.sl.map fun y=>(y.1,y.2.den),ob:=σ.ob.map fun y=>(y.1,y.2.den) }
def Ent.den (x:Ent):Ent:={ x with ao:=x.ao.den }
theorem QnY (t:Nat):∀(l:List (Nat×AV)),look (l.map fun y=>(y.1,y.2.den)) t=(look l t).den
 | []=>rfl
 | (s,v)::l=>by
  simp only [List.map_cons,QaH]
  split
  ·rfl
  ·exact QnY t l
theorem Rel1.dena {X:Cx} {σ:AS} {a:Act} {w:World} {en:List Ent} (h:Rel1 X σ a w en):Rel1 X σ.dena a w (en.map Ent.den):=by
 have m:=h.mem
 have hgd:∀(z:Ent) (b:Nat),z.den.hd b↔z.hd b:=fun z b=>by
  unfold Ent.hd
  rw [show z.den.ao.deep=z.ao.deep from AO.den_deep z.ao]
  try exact Iff.rfl
 have hI:∀b,IM X en w b→IM X (en.map Ent.den) w b:=fun b hb=>⟨hb.1,hb.2.1,fun y hy=>by
  obtain ⟨z,hz,rfl⟩:=List.mem_map.1 hy
  exact fun h=>hb.2.2 z hz ((hgd z b).1 h)⟩
 have he:∀x∈en,∃y∈en.map Ent.den,Like x y:=fun x hx=>⟨x.den,List.mem_map.2 ⟨x,hx,rfl⟩,rfl,rfl,AO.den_isRow _,AO.den_lens _⟩
 have hsh:∀(x:AV) (u:Value),x.shows w en (IM X en w) u→x.den.shows w (en.map Ent.den) (IM X (en.map Ent.den) w) u:=fun x u hx=>
  AV.shows_den x u (AV.shows_mono (Nat.le_refl _) (fun _ _=>rfl) hI he hx)
 refine ⟨⟨m.os,m.tape,m.output,m.size,m.old,?_,?_,?_,?_,?_⟩,?_,h.defers,h.size,fun t=>?_⟩
 ·have:(en.map Ent.den).map Ent.nm=en.map Ent.nm:=by simp only [List.map_map];rfl
  rw [this]
  exact m.names
 ·exact List.Pairwise.map _ (fun x y hxy b h1 h2=>hxy b ((hgd x b).1 h1) ((hgd y b).1 h2)) m.blks
 ·intro y hy
  obtain ⟨z,hz,rfl⟩:=List.mem_map.1 hy
  have hok:=m.ok z hz
  unfold EntOk at hok
  split at hok
  ·rename_i e es dp hao
   obtain ⟨s,us,k0,k1,k2,k3,k4,k5,k6,k7⟩:=hok
   unfold EntOk
   simp only [Ent.den,hao,AO.den]
   exact ⟨s,us,k0,k1,k2,k3,k4,fun hd b hb=>hI b (k5 hd b hb),k6,k7⟩
  ·rename_i e cs hao
   obtain ⟨k0,q,cur,k1,k2,k3,k4⟩:=hok
   unfold EntOk
   simp only [Ent.den,hao,AO.den]
   refine ⟨k0,q,cur,k1,k2,k3,Qe9 cs _ ?_⟩
   exact Qi5 (Nat.le_refl _) (fun _ _=>rfl) hI he k4
 ·refine List.Pairwise.map _ (fun x y hxy h1 h2=>?_) m.apart
  exact hxy (by rw [←AO.den_deep];exact h1) (by rw [←AO.den_deep];exact h2)
 ·intro y hy
  obtain ⟨z,hz,rfl⟩:=List.mem_map.1 hy
  exact m.fix z hz
 ·have e1:(en.map Ent.den).map Ent.key=(en.map Ent.key).map fun y=>(y.1,y.2.den):=by simp only [List.map_map];rfl
  rw [e1]
  exact h.ob.map _
 ·simp only [AS.dena,QnY]
  exact hsh _ _ (h.slots t)
section
variable {X:Cx} {σ:AS} {Q:Exit→AS→Prop}
theorem Qac {c:Code} (h:AWp X c Q σ.dena):AWp X c Q σ:=fun a w ⟨_,hr⟩=>h a w ⟨_,hr.dena⟩
end
section
variable {X:Cx} {σ σ':AS} {o:Oper}
end
section
variable {X:Cx} {l:List Oper} {N:AS→Prop} {σ σ':AS} {f:Nat} {ls:List Bool}
end
end Go.Proofs.YtelbahebpmkfjaaGreat
namespace Go.Proofs.YtelbahebpmkfjaaGreat
open Go Go.RowKit

def QxV (X:Cx) (o:Oper) (σ:AS):Option AS:=
 match o.dst with
 | some t=>match o.op with
  | .field T x f=>match X.tt T with
   | some ti=>match QhH ti.desc f with
    | some (off,ft)=>match X.tt ft with
     | some tf=>match σ.ev x with
      | .agg xs=>bif Qbp tf.desc then QdG ((xs.drop off).take tf.size) (fun ys=>vput σ t (.agg ys)) else (match xs[off]? with
       | some v=>vput σ t v
       | none=>none)
      | _=>none
     | none=>none
    | none=>none
   | none=>none
  | _=>none
 | none=>none
end Go.Proofs.YtelbahebpmkfjaaGreat
namespace Go.Proofs.YtelbahebpmkfjaaGreat
open Go Go.RowKit

theorem Qg6 {P:Program} {o:Oper} {f:FuncId} {x:Operand} {cs:List Value} {as:Array Operand} {ats:Array TypeId} (ho:o.op=.call { callee:=.value x,args:=as,argTypes:=ats }) (a:Act) (hv:a.eval x=.func (.func f) #[] cs.toArray) (w:World) :
  (execOp a.eval o).run P w=(callFunc f ((as.toList.map a.eval)++cs).toArray).run P w:=by
 have e:as.map a.eval++cs.toArray=((as.toList.map a.eval)++cs).toArray:=by cases as;simp
 simp only [execOp,ho,resolve,hv,←e]
 simp [Deferred.ofValue,invoke]
section
variable {X:Cx} {σ:AS} {o:Oper} {K:AS→Prop} {t:Nat}
theorem Qty {f:FuncId} {x:Operand} {cs ys:List AV} {as:Array Operand} {ats:Array TypeId} {xs zs rs:List AV} {rob:List (Nat×AO)} (hc:ACalls X.P f zs rs rob) (ho:o.op=.call { callee:=.value x,args:=as,argTypes:=ats }) (hd:o.dst=some t)
  (hv:σ.ev x=.clo f cs) (hy:QjE σ.ob cs=some ys) (hx:σ.snaps as.toList=some xs) (hz:xs++ys=zs) (hf:Qg7 X.fre t σ.ob rob=true) (ht:Nat.blt t σ.nt=true) (hK:K ⟨σ.nt,(t,(one rs).shift t)::σ.sl,QcG t rob++σ.ob⟩):OpOk X o σ K:=by
 intro a w hr next Q hn
 subst hz
 obtain ⟨en,h1⟩:=hr
 obtain ⟨us,hu,hus⟩:=QaS h1 hv
 obtain ⟨h2,h3⟩:=hc w _ (QbI (Qek h1 hx) (QeE h1 hy hus))
 unfold Oper.wp
 rw [Qg6 ho a hu,h2,Oper.upon_enter]
 refine h3.mono fun e w' ⟨v,er,he,m,hk,hr⟩=>?_
 subst he
 rw [hd]
 exact hn _ _ _ hK (h1.merge m hk hr hf ht)
theorem QrQ {ι:Type} {f:FuncId} {x:Operand} {cs ys:List AV} {as:Array Operand} {ats:Array TypeId} {xs zs:List AV} {obs:List (Nat×AO)} {ok:ι→Prop} {rs:ι→List AV} {obs' rob:ι→List (Nat×AO)} (ρ:List Nat) (hc:MCalls X.P f zs obs ok rs obs' rob)
  (ho:o.op=.call { callee:=.value x,args:=as,argTypes:=ats }) (hd:o.dst=some t) (hv:σ.ev x=.clo f cs) (hy:QhR ρ cs=some ys) (hx:σ.handA ρ as.toList=some xs) (hz:xs++ys=zs) (hob:σ.handed 1000000 ρ=some obs) (hn:Qci ρ=true)
  (hf:∀i,ok i→(Qf5 X.fre t σ.ob (rob i)&&(rob i).all fun y=>fre0 y.1)=true) (ht:Nat.blt t σ.nt=true)
  (hK:∀i,ok i→K ⟨σ.nt,(t,(one (rs i)).mapN (Qbf t ρ))::σ.sl,QcG t (rob i)++(QhZ ρ (obs' i)++QkW ρ σ.ob)⟩):OpOk X o σ K:=
 Qjy ρ hc (fun a w en h=>by
  subst hz
  obtain ⟨us,hu,hus⟩:=QaS h hv
  exact ⟨_,Qg6 ho a hu w,fun _ _ hI he=>QbI (QfC h hI he hx) (Qep hI he _ _ _ hy hus)⟩) hd hob hn hf ht hK
end

mutual
def AV.fzb (p:Nat) (ds:List D):AV→AV
 | .ptr o off=>bif Nat.beq o p then .pd ds off else .ptr o off
 | .row o=>bif Nat.beq o p then .any else .row o
 | .pr o i off=>bif Nat.beq o p then .any else .pr o i off
 | .agg xs=>.agg (fzbL p ds xs)
 | .tup xs=>.tup (fzbL p ds xs)
 | .clo g xs=>.clo g (fzbL p ds xs)
 | .sub o i j=>bif Nat.beq o p then .any else .sub o i j
 | x=>x
def fzbL (p:Nat) (ds:List D):List AV→List AV
 | []=>[]
 | x::xs=>x.fzb p ds::fzbL p ds xs
end
def AO.fzb (p:Nat) (ds:List D):AO→AO
 | .box e cs=>.box e (fzbL p ds cs)
 | x=>x
def AS.fzb (σ:AS) (p:Nat) (ds:List D):AS:=⟨σ.nt,σ.sl.map fun y=>(y.1,y.2.fzb p ds),(QbA p σ.ob).map fun y=>(y.1,y.2.fzb p ds)⟩
theorem AO.fzb_isRow (p:Nat) (ds:List D) (x:AO):(x.fzb p ds).isRow=x.isRow:=by cases x <;> rfl
theorem AO.fzb_lens (p:Nat) (ds:List D) (x:AO):(x.fzb p ds).lens=x.lens:=by cases x <;> rfl
theorem AO.fzb_deep (p:Nat) (ds:List D) (x:AO):(x.fzb p ds).deep=x.deep:=by cases x <;> rfl
section
variable {w:World} {en en':List Ent} {I I':Nat→Prop} {p:Nat} {ds:List D}
mutual
theorem AV.shows_fzb (hI:∀b,I b→I' b) (hp:∀x∈en,x.nm=p→∀g,blk x.val=some g→∃us F,repL w ds us F∧(∀j v,us[j]?=some v→w.cell? ⟨g,j,none⟩=some v)∧I' g∧∀c∈F,I' c) (he:∀x∈en,x.nm≠p→∃y∈en',Like x y):∀(x:AV) (u:Value),x.shows w en I u→(x.fzb p ds).shows w en' I' u
 | .any,_,_=>trivial
 | .d x,u,h=>by
  obtain ⟨F,h1,h2⟩:=h
  exact ⟨F,h1,fun b hb=>hI b (h2 b hb)⟩
 | .nil,_,h=>h
 | .row o,u,h=>by
  obtain ⟨x,hx,rfl,h1,rfl⟩:=h
  simp only [AV.fzb]
  by_cases ho:x.nm=p
  ·rw [(Qai _ _).2 ho]
   trivial
  ·rw [Qhf ho]
   obtain ⟨y,hy,l1,l2,l3,l4⟩:=he x hx ho
   exact ⟨y,hy,l1,by rw [l3];exact h1,l2.symm⟩
 | .ptr o off,u,h=>by
  obtain ⟨x,hx,rfl,h1,g,h2,h3⟩:=h
  simp only [AV.fzb]
  by_cases ho:x.nm=p
  ·rw [(Qai _ _).2 ho]
   obtain ⟨us,F,k1,k2,k3,k4⟩:=hp x hx ho g h2
   exact ⟨g,0,us,F,by rw [h3];simp,k1,fun j v hj=>by rw [Nat.zero_add];exact k2 j v hj,k3,k4⟩
  ·rw [Qhf ho]
   obtain ⟨y,hy,l1,l2,l3,l4⟩:=he x hx ho
   exact ⟨y,hy,l1,by rw [l3];exact h1,g,by rw [l2];exact h2,h3⟩
 | .pr o i off,u,h=>by
  obtain ⟨x,hx,rfl,h1,g,z,h2,h3,h4,h5⟩:=h
  simp only [AV.fzb]
  by_cases ho:x.nm=p
  ·rw [(Qai _ _).2 ho]
   trivial
  ·rw [Qhf ho]
   obtain ⟨y,hy,l1,l2,l3,l4⟩:=he x hx ho
   exact ⟨y,hy,l1,by rw [l3];exact h1,g,z,by rw [l2];exact h2,by rw [l4];exact h3,by rw [l4];exact h4,h5⟩
 | .pd e off,u,h=>by
  obtain ⟨b,o,us,F,h1,h2,h3,h4,h5⟩:=h
  exact ⟨b,o,us,F,h1,h2,h3,hI b h4,fun c hc=>hI c (h5 c hc)⟩
 | .agg xs,u,h=>by
  obtain ⟨us,h1,h2⟩:=h
  exact ⟨us,h1,Qd9 hI hp he xs us h2⟩
 | .tup xs,u,h=>by
  obtain ⟨us,h1,h2⟩:=h
  exact ⟨us,h1,Qd9 hI hp he xs us h2⟩
 | .clo g xs,u,h=>by
  obtain ⟨us,h1,h2⟩:=h
  exact ⟨us,h1,Qd9 hI hp he xs us h2⟩
 | .sub o i j,u,h=>by
  obtain ⟨x,hx,rfl,h1,h2,A,n,c,z,h3,h4,rfl⟩:=h
  simp only [AV.fzb]
  by_cases ho:x.nm=p
  ·rw [(Qai _ _).2 ho]
   trivial
  ·rw [Qhf ho]
   obtain ⟨y,hy,l1,l2,l3,l4⟩:=he x hx ho
   exact ⟨y,hy,l1,by rw [l3];exact h1,by rw [l4];exact h2,A,n,c,z,by rw [l2];exact h3,by rw [l4];exact h4,rfl⟩
theorem Qd9 (hI:∀b,I b→I' b) (hp:∀x∈en,x.nm=p→∀g,blk x.val=some g→∃us F,repL w ds us F∧(∀j v,us[j]?=some v→w.cell? ⟨g,j,none⟩=some v)∧I' g∧∀c∈F,I' c) (he:∀x∈en,x.nm≠p→∃y∈en',Like x y):∀(xs:List AV) (us:List Value),Qao w en I xs us→Qao w en' I' (fzbL p ds xs) us
 | [],_,h=>h
 | x::xs,us,h=>by
  obtain ⟨u,us',h1,h2,h3⟩:=h
  exact ⟨u,us',h1,AV.shows_fzb hI hp he x u h2,Qd9 hI hp he xs us' h3⟩
end
end
theorem Qol (p:Nat) (ds:List D):∀(sl:List (Nat×AV)) (t:Nat),look (sl.map fun y=>(y.1,y.2.fzb p ds)) t=(look sl t).fzb p ds
 | [],_=>rfl
 | (k,x)::l,t=>by
  rw [List.map_cons,QaH,QaH,Qol p ds l t]
  split <;> rfl
theorem Rel1.fzb {X:Cx} {σ:AS} {a:Act} {w:World} {en:List Ent} (h:Rel1 X σ a w en) {p:Nat} {e:TypeId} {cs:List AV} {ds:List D} (hp:Qam σ.ob p=some (.box e cs)) (hds:QbX cs=some ds) :
  Rel1 X (σ.fzb p ds) a w ((en.filter fun y=>y.nm != p).map fun y=>{ y with ao:=y.ao.fzb p ds }):=by
 have m:=h.mem
 let g:Ent→Ent:=fun y=>{ y with ao:=y.ao.fzb p ds }
 have hmem:∀{y:Ent},y∈(en.filter fun y=>y.nm != p).map g→∃z∈en,z.nm≠p∧y=g z:=by
  intro y hy
  simp only [List.mem_map,List.mem_filter,bne_iff_ne] at hy
  obtain ⟨z,⟨h1,h2⟩,rfl⟩:=hy
  exact ⟨z,h1,h2,rfl⟩
 obtain ⟨y0,hy0,hy0n,hy0a⟩:=h.ent hp
 have hgd:∀(z:Ent) (b:Nat),(g z).hd b↔z.hd b:=fun z b=>by
  unfold Ent.hd
  rw [show (g z).ao.deep=z.ao.deep from AO.fzb_deep p ds z.ao]
  try exact Iff.rfl
 have hI:∀b,Imm X.w0 X.Z X.O en w b→Imm X.w0 X.Z X.O ((en.filter fun y=>y.nm != p).map g) w b:=fun b hb=>⟨hb.1,hb.2.1,fun y hy=>by
  obtain ⟨z,hz,_,rfl⟩:=hmem hy
  exact fun h=>hb.2.2 z hz ((hgd z b).1 h)⟩
 have hpx:∀x∈en,x.nm=p→∀q,blk x.val=some q→∃us F,repL w ds us F∧(∀j v,us[j]?=some v→w.cell? ⟨q,j,none⟩=some v)∧Imm X.w0 X.Z X.O ((en.filter fun y=>y.nm != p).map g) w q∧∀c∈F,Imm X.w0 X.Z X.O ((en.filter fun y=>y.nm != p).map g) w c:=fun x hx hn q hq=>by
  have:=m.ent_unique hx hy0 (hn.trans hy0n.symm)
  subst this
  have hok:=m.ok x hx
  obtain ⟨l1,l2⟩:=hok.lt hq
  unfold EntOk at hok
  rw [hy0a] at hok
  obtain ⟨k0,q',cur,k1,k2,k3,k4⟩:=hok
  have e1:q'=q:=by
   rw [k1] at hq
   injection hq
  subst e1
  obtain ⟨F,f1,f2⟩:=QbZ hds k4
  refine ⟨cur.toList,F,f1,fun j v hj=>?_,⟨.inr l2,l1,fun y hy=>?_⟩,fun c hc=>hI c (f2 c hc)⟩
  ·simp only [World.cell?,k3]
   simpa using hj
  ·obtain ⟨z,hz,hzn,rfl⟩:=hmem hy
   exact fun hq'=>m.hd_ne hx hz (fun e=>hzn (e.symm.trans hn)) (.inl hq) ((hgd z _).1 hq')
 have hl:∀x∈en,x.nm≠p→∃y∈(en.filter fun y=>y.nm != p).map g,Like x y:=fun x hx hn=>
  ⟨g x,by simp only [List.mem_map,List.mem_filter,bne_iff_ne];exact ⟨x,⟨hx,hn⟩,rfl⟩,rfl,rfl,AO.fzb_isRow p ds x.ao,AO.fzb_lens p ds x.ao⟩
 refine ⟨⟨m.os,m.tape,m.output,m.size,m.old,?_,?_,?_,?_,fun y hy=>by
  obtain ⟨z,hz,_,rfl⟩:=hmem hy
  exact m.fix z hz⟩,?_,h.defers,h.size,fun t=>?_⟩
 ·have:((en.filter fun y=>y.nm != p).map g).map Ent.nm=(en.filter fun y=>y.nm != p).map Ent.nm:=by simp only [List.map_map];rfl
  rw [this]
  exact List.Nodup.sublist (List.Sublist.map _ List.filter_sublist) m.names
 ·exact List.Pairwise.map _ (fun x y hxy b h1 h2=>hxy b ((hgd x b).1 h1) ((hgd y b).1 h2)) (List.Pairwise.sublist List.filter_sublist m.blks)
 ·intro y hy
  obtain ⟨z,hz,hzn,rfl⟩:=hmem hy
  have hok:=m.ok z hz
  unfold EntOk at hok
  split at hok
  ·rename_i e' es' dp' hao
   obtain ⟨s,us,k0,k1,k2,k3,k4,k5,k6,k7⟩:=hok
   unfold EntOk
   simp only [g,hao,AO.fzb]
   exact ⟨s,us,k0,k1,k2,k3,k4,fun hd b hb=>hI b (k5 hd b hb),k6,k7⟩
  ·rename_i e' cs' hao
   obtain ⟨k0,q,cur,k1,k2,k3,k4⟩:=hok
   unfold EntOk
   simp only [g,hao,AO.fzb]
   exact ⟨k0,q,cur,k1,k2,k3,Qd9 hI hpx hl cs' _ k4⟩
 ·exact List.Pairwise.map _ (fun x y hxy h1 h2=>hxy (by rw [←AO.fzb_deep p ds];exact h1) (by rw [←AO.fzb_deep p ds];exact h2)) (List.Pairwise.sublist List.filter_sublist m.apart)
 ·have e1:((en.filter fun y=>y.nm != p).map g).map Ent.key=(QbA p (en.map Ent.key)).map fun y=>(y.1,y.2.fzb p ds):=by
   simp only [QbA,List.filter_map,List.map_map]
   rfl
  rw [e1]
  exact (h.ob.filter _).map _
 ·simp only [AS.fzb,Qol]
  exact AV.shows_fzb hI hpx hl _ _ (h.slots t)
section
variable {X:Cx} {σ:AS} {Q:Exit→AS→Prop}
theorem Qvh (p:Nat) {e:TypeId} {cs:List AV} {ds:List D} {c:Code} (hp:Qam σ.ob p=some (.box e cs)) (hds:QbX cs=some ds) (h:AWp X c Q (σ.fzb p ds)):AWp X c Q σ:=fun a w ⟨_,hr⟩=>h a w ⟨_,hr.fzb hp hds⟩
theorem QsO (p:Nat) {e:TypeId} {cs:List AV} {ds:List D} {K:AS→Prop} {o:Oper} (hp:Qam σ.ob p=some (.box e cs)) (hds:QbX cs=some ds) (h:OpOk X o (σ.fzb p ds) K):OpOk X o σ K:=fun a w ⟨_,hr⟩=>h a w ⟨_,hr.fzb hp hds⟩
end
end Go.Proofs.YtelbahebpmkfjaaGreat
namespace Go.Proofs.YtelbahebpmkfjaaGreat
open Go Go.RowKit
def AS.okI (σ:AS):AV→Bool
 | .row p=>match Qam σ.ob p with
  | some (.row _ _ dp)=>!dp
  | _=>false
 | _=>true
section
variable {X:Cx} {σ:AS} {o:Oper} {K:AS→Prop} {t:Nat}
theorem Qjo {a:Act} {w:World} {en:List Ent} (h:Rel1 X σ a w en) {v:AV} {es:List (List D)} {u:Value} (hv:σ.els v=some es) (hI:σ.okI v=true) (hs:v.shows w en (IM X en w) u) {z:Nat} (hz:lenE es z) :
  ∃A cap us F,u=.slice A es.length cap∧Rd w z A es.length cap us∧repE w es us F∧∀b∈F,IM X en w b:=by
 cases v with
 | d x=>
  cases x with
  | sl es'=>
   simp only [AS.els,Option.some.injEq] at hv
   subst hv
   obtain ⟨F,h1,h2⟩:=hs
   obtain ⟨A,cap,us,F',k1,k2,k3,k4⟩:=Qr2 h1 hz
   exact ⟨A,cap,us,F',k1,k2,k3,fun b hb=>h2 b (k4 b hb)⟩
  | _=>cases hv
 | nil=>
  simp only [AS.els,Option.some.injEq] at hv
  subst hv
  rw [show u=.slice none 0 0 from hs]
  exact ⟨none,0,[],[],rfl,⟨by simp,Nat.le_refl _,⟨by omega,fun _=>rfl⟩,fun hn=>absurd hn (by simp)⟩,⟨rfl,rfl⟩,by simp⟩
 | row p=>
  simp only [AS.els] at hv
  split at hv
  ·rename_i e es' dp hl
   injection hv with hv
   subst hv
   obtain ⟨y,hy,hyn,hya⟩:=h.ent hl
   obtain ⟨y',hy',e1,e2,rfl⟩:=hs
   have:=h.mem.ent_unique hy' hy (e1.trans hyn.symm)
   subst this
   have hok:=h.mem.ok y' hy'
   unfold EntOk at hok
   rw [hya] at hok
   obtain ⟨z0,us,k0,k1,k2,k3,k4,k5,k6,k7⟩:=hok
   have hlen:=Qa0 k4 hz
   obtain ⟨A,c,g1,g2,g3,g4,g5⟩:=Qbh k2
   refine ⟨A,c,us,y'.fs,g1,⟨hlen,g2,⟨by unfold maxLen at g3;omega,g4⟩,fun hn=>?_⟩,k4,k5 (by simpa [AS.okI,hl] using hI)⟩
   obtain ⟨g,hg⟩:=g5 hn
   subst hg
   refine ⟨g,0,rfl,fun j v hj=>?_⟩
   rw [g1] at k2
   have hl':=(List.getElem?_eq_some_iff.1 hj).1
   rw [k2.1] at hl'
   rw [Nat.zero_add,k2.cellAt j hl']
   exact hj
  ·cases hv
 | _=>cases hv
theorem Qpa {s x:Operand} {T e:TypeId} {p:Nat} {es es2:List (List D)} {dp:Bool} {n1 n2:Nat} [te:TI X.P e] (ho:o.op=.call { callee:=.builtin .append,args:=#[s,x],argTypes:=#[T,T] }) (hd:o.dst=some t) (hT:QaZ X T=some e)
  (hs:σ.ev s=.row p) (hp:Qam σ.ob p=some (.row e es dp)) (hx:σ.els (σ.ev x)=some es2) (hk:ElemOk te) (hn1:es.length=n1) (hn2:es2.length=n2) (hz:lenE es2 te.size) (hb:n1+n2≤1099511627776) (hlo:X.fre p=true) (ht:Nat.blt t σ.nt=true) (hI:σ.okI (σ.ev x)=true)
  (hK:K ⟨σ.nt,(t,.row p)::cutS (notN p) σ.sl,(p,.row e (es++es2) false)::QkK (notN p) p σ.ob⟩):OpOk X o σ K:=by
 intro a w hr next Q hn
 obtain ⟨en,h1⟩:=hr
 have hu:=QaN hT
 obtain ⟨y,hy,hyn,hya⟩:=h1.ent hp
 have hok:=h1.mem.ok y hy
 unfold EntOk at hok
 rw [hya] at hok
 obtain ⟨z,us,k0,k1,k2,k3,k4,k5,k6,k7⟩:=hok
 obtain ⟨q,q1,q2,q3,q4⟩:=te.parts
 have hzz:z=te.size:=by rw [te.sized] at k0;simpa using k0.symm
 subst hzz
 obtain ⟨A,cap,us2,F',e1,g5,g6,g7⟩:=Qjo h1 hx hI (AS.ev_shows h1 x) hz
 obtain ⟨y',hy',f1,f2,f3⟩:=QaS h1 hs
 have:=h1.mem.ent_unique hy' hy (f1.trans hyn.symm)
 subst this
 have hb':es.length+es2.length≤1099511627776:=by rw [hn1,hn2];exact hb
 obtain ⟨v',w',r1,r2,r3,r4⟩:=Qcl (P:=X.P) 0 T o.type e q te.zero te.size te.bytes hu q1 q2 q3 q4 ((Qai _ _).1 hk.zero) k1 y'.val es.length us k2 A es2.length cap us2 g5 (QeQ g6)
  (by unfold maxLen;omega) (QeR hb' hk.bytes) (Nat.zero_le _)
 have hrun:(execOp a.eval o).run X.P w=.ok (.value v') w':=by
  unfold execOp
  simp only [ho,resolve,invoke,builtin,Sem.run_bind,Sem.run_pure,Result.andThen_ok,List.map_toArray,List.map_cons,List.map_nil,f3,e1,r1]
 let x':Ent:=⟨p,.row e (es++es2) false,v',y'.fs++F'⟩
 have hsame:∀b,b<w.heap.size→blk y'.val≠some b→Same w w' b:=fun b hb hne=>r3.block b hb (by rw [Qmx k2];exact fun e=>hne e.symm)
 have hsw:Swap X.P X.w0 X.Z X.O en w w' p x' (notN p):=
  ⟨h1.mem,fun n hn=>Qrq hn,(fun h=>by rw [Qey] at h;cases h),r3.os,r3.tape,r3.output,r3.size,
   fun b hb hno=>hsame b hb (hno y' hy hyn),fun b hb=>by
    rcases hb with hb|⟨hd,hb⟩
    ·exact (r4 b hb).imp id (fun h=>⟨y',hy,hyn,.inl h⟩)
    ·exact Bool.noConfusion hd,rfl,X.Z.lo _ _ hlo⟩
 have hS5:∀b∈y'.fs,Same w w' b:=hsw.same_fs hy hyn k5 (fun hd=>(k7 hd).2.1)
 have hI5:=hsw.imm_fs hy hyn (by rw [hya];rfl) k5 (fun hd=>(k7 hd).2.1) (fun hd b hb hq=>by
  rcases hq with hq|⟨hq,_⟩
  ·rcases r4 b hq with h|h
   ·have:=((k7 hd).2.1 b hb).2.1;omega
   ·exact ((k7 hd).2.1 b hb).2.2 h
  ·cases hq)
 have hF6:∀g,blk v'=some g→Frs X.w0 X.O g:=fun g hg=>by
  rcases r4 g hg with h|h
  ·exact .inr (Nat.le_trans h1.mem.size h)
  ·exact k6 g h
 have hrel:=h1.swap hsw
  (by
   unfold EntOk
   exact ⟨te.size,us++us2,k0,k1,by rw [List.length_append];exact r2,fun l hl=>(List.mem_append.1 hl).elim (k3 l) (hz l),
    Qb7 (QaF r3.size _ _ _ k4 hS5) (QaF r3.size _ _ _ g6 (fun b hb=>hsw.same (g7 b hb))),
    fun _ b hb=>(List.mem_append.1 hb).elim (fun h=>hI5 b h) (fun h=>hsw.imm (g7 b h)),hF6,fun h=>by cases h⟩)
  (fun hd=>by cases hd)
 unfold Oper.wp
 rw [hrun,Oper.upon_value,hd]
 exact hn _ _ _ hK ⟨_,hrel.put ⟨x',List.mem_cons_self,rfl,rfl,rfl⟩ ht⟩
theorem QoS {s x:Operand} {T e:TypeId} {es2:List (List D)} {n2:Nat} [te:TI X.P e] (ho:o.op=.call { callee:=.builtin .append,args:=#[s,x],argTypes:=#[T,T] }) (hd:o.dst=some t) (hT:QaZ X T=some e)
  (hs:σ.ev s=.nil) (hx:σ.els (σ.ev x)=some es2) (hk:ElemOk te) (hn2:es2.length=n2) (hz:lenE es2 te.size) (hb:n2≤1099511627776) (hf:QbG X.fre t σ.ob=true) (ht:Nat.blt t σ.nt=true) (hI:σ.okI (σ.ev x)=true)
  (hK:K ⟨σ.nt,(t,.row t)::σ.sl,(t,.row e es2 false)::QbA t σ.ob⟩):OpOk X o σ K:=
 QgK (ao:=.row e es2 false) hd ht hf (fun a w en h1=>by
  have hu:=QaN hT
  obtain ⟨q,q1,q2,q3,q4⟩:=te.parts
  obtain ⟨A,cap,us2,F',e1,g5,g6,g7⟩:=Qjo h1 hx hI (AS.ev_shows h1 x) hz
  have f3:a.eval s=.slice none 0 0:=QaS h1 hs
  have hb':0+es2.length≤1099511627776:=by rw [hn2];omega
  obtain ⟨v',w',r1,r2,r3,r4⟩:=Qcl (P:=X.P) 0 T o.type e q te.zero te.size te.bytes hu q1 q2 q3 q4 ((Qai _ _).1 hk.zero) (Qa7 hk.pos) (.slice none 0 0) 0 [] (World.ownsRow_nil w 0 e te.size) A es2.length cap us2 g5 (QeQ g6)
   (by unfold maxLen;omega) (QeR hb' hk.bytes) (Nat.zero_le _)
  have hr4:∀b,blk v'=some b→w.heap.size≤b:=fun b hb=>(r4 b hb).resolve_right (fun h=>by cases h)
  have hx:Ext w w':=⟨r3.os,r3.tape,r3.output,r3.size,fun b hb=>r3.block b hb (by simp [Value.ownBlock])⟩
  refine ⟨v',F',w',?_,hx,fun en' he=>⟨_,he,rfl,rfl,rfl⟩,hr4,fun hI hT=>?_,fun h=>by cases h⟩
  ·unfold execOp
   simp only [ho,resolve,invoke,builtin,Sem.run_bind,Sem.run_pure,Result.andThen_ok,List.map_toArray,List.map_cons,List.map_nil,f3,e1,r1]
  ·unfold EntOk
   refine ⟨te.size,us2,te.sized,Qa7 hk.pos,by simpa using r2,hz,QaF r3.size _ _ _ g6 (fun b hb=>hx.block b (g7 b hb).2.1),fun _ b hb=>hI b (g7 b hb),fun g hg=>.inr (Nat.le_trans h1.mem.size (hr4 g hg)),fun h=>by cases h⟩) hK
theorem QvT {T e:TypeId} {len:Nat} {parts:Array (Nat×Operand)} {cs:List AV} {ds:List D} {es:List (List D)} [te:TI X.P e] (ho:o.op=.buildSlice T len parts) (hd:o.dst=some t) (hT:QaZ X T=some e) (hk:ElemOk te) (hz1:te.zero.cells.toList.all Value.oneCell'=true)
  (hcs:QjU te.size (Qhg te.zero len) (σ.evParts parts.toList)=some cs) (hds:QbX cs=some ds) (hl:Nat.beq ds.length (len * te.size)=true) (hsm:Nat.ble (len * te.size) 16777216=true) (hes:Qgq (chunk te.size len ds) some=some es) (hf:QbG X.fre t σ.ob=true) (ht:Nat.blt t σ.nt=true)
  (hK:K ⟨σ.nt,(t,.row t)::σ.sl,(t,.row e es false)::QbA t σ.ob⟩):OpOk X o σ K:=
 QgK (ao:=.row e es false) hd ht hf (fun a w en h1=>by
  rw [Qf9] at hes
  injection hes with hes
  subst hes
  have hu:=QaN hT
  obtain ⟨q,q1,q2,q3,q4⟩:=te.parts
  have hpos:=Qa7 hk.pos
  have hzc:te.zero.cells.size=te.size:=(Qai _ _).1 hk.zero
  have hmade:((Array.range (len * te.size)).map (te.zero.cells[· % te.zero.cells.size]!)).toList=(List.replicate len te.zero.cells.toList).flatten:=by
   have h0:=Qd7 te.zero.cells len (by omega)
   rw [show len * te.zero.cells.size=len * te.size by rw [hzc]] at h0
   exact h0
  obtain ⟨hp1,hp2⟩:=Qd6 h1 parts.toList
  obtain ⟨r,r1,r2,r3⟩:=Qhy (vs:=parts.toList.map fun x=>(x.1,a.eval x.2)) (cells:=(Array.range (len * te.size)).map (te.zero.cells[· % te.zero.cells.size]!)) h1.mem hcs
   (by rw [hmade];exact Qe7 te.zero len) (by rw [hmade];exact Qix hz1 len) hp1 hp2
  obtain ⟨F,k1,k2⟩:=QbZ hds r2
  have hlen:ds.length=len * te.size:=(Qai _ _).1 hl
  obtain ⟨g1,g2,g3⟩:=QhK hlen k1
  have hrl:r.toList.length=len * te.size:=by rw [QaB r2,QdF hds];exact hlen
  have hmx:len≤16777216:=by
   have:=Nat.le_of_ble_eq_true hsm
   exact Nat.le_trans (Nat.le_mul_of_pos_right len hpos) this
  refine ⟨.slice (some ⟨w.heap.size,0,none⟩) len len,F,w.alloc (.cells r e),?_,Ext.alloc_ w _,fun en' he=>⟨_,he,rfl,rfl,rfl⟩,fun b hb=>?_,fun hI hTr=>?_,fun h=>by cases h⟩
  ·have hmp:parts.map (fun (x:Nat×Operand)=>(x.1,a.eval x.2))=(parts.toList.map fun x=>(x.1,a.eval x.2)).toArray:=by cases parts;simp
   have hsm':¬(len * te.size>2 ^ 24):=by have:=Nat.le_of_ble_eq_true hsm;omega
   have hrun:(Instr.buildSlice T len (parts.map fun (x:Nat×Operand)=>(x.1,a.eval x.2))).run X.P w=.ok (.slice (some ⟨w.heap.size,0,none⟩) len len) (w.alloc (.cells r e)):=by
    rw [hmp]
    by_cases h0:len * te.size=0
    ·have hl0:len=0:=by
      rcases Nat.mul_eq_zero.1 h0 with h|h
      ·exact h
      ·omega
     subst hl0
     have e1:((Array.range (0 * te.size)).map (te.zero.cells[· % te.zero.cells.size]!))=(#[]:Array Value):=by simp
     rw [e1] at r1
     simp [Instr.buildSlice,run_underlying hu,sizeOf,typeInfo,q1,q3,r1,newRow,Array.range_zero']
    ·exact run_buildSlice w T e len _ r q te.zero hu q1 q2 (by rw [q3];exact hsm') (by rw [q3];exact h0) (by rw [q3];exact r1)
   simp only [execOp,ho,Sem.run_bind,hrun,Result.andThen]
   rfl
  ·simp only [blk,Option.some.injEq] at hb
   exact Nat.le_of_eq hb
  ·unfold EntOk
   refine ⟨te.size,r.toList,te.sized,hpos,?_,g2,QaF (Ext.alloc_ w _).size _ _ _ g1 (fun b hb=>(Ext.alloc_ w _).block b (k2 b hb).2.1),fun _ b hb=>hI b (k2 b hb),fun g hg=>?_,fun h=>by cases h⟩
   ·rw [g3]
    refine ⟨hrl,.inr ⟨w.heap.size,len,r,rfl,Nat.zero_le _,heap_alloc_new w _,Nat.le_refl _,by unfold maxLen;omega,by rw [←Array.length_toList];exact hrl,by rw [←hrl];exact List.take_length⟩⟩
   ·simp only [blk,Option.some.injEq] at hg
    subst hg
    exact .inr h1.mem.size) hK
end
theorem Ql2 {w:World} {ds el:List D} {us vs:List Value} {F1 F2:List Nat} (h:repL w el us F1) (h':repL w ds vs F2) (k:Nat):∃F,repL w (splice el k ds) (splice us k vs) F∧∀b∈F,b∈F1∨b∈F2:=by
 have hl:=Qax h'
 unfold splice
 obtain ⟨G1,h1,g1⟩:=Qf6 h k
 obtain ⟨G2,h2,g2⟩:=QdV h (k+ds.length)
 rw [hl]
 refine ⟨_,Qbn (Qbn h1 h') h2,fun b hb=>?_⟩
 simp only [List.mem_append] at hb
 rcases hb with (hb|hb)|hb
 ·exact .inl (g1 b hb)
 ·exact .inr hb
 ·exact .inl (g2 b hb)
theorem Qk4 {w:World} {z:Nat}:∀{es:List (List D)} {us:List Value} {F F2:List Nat} {i off:Nat} {el ds:List D} {vs:List Value},repE w es us F→(∀e∈es,e.length=z)→es[i]?=some el→repL w ds vs F2→off+ds.length≤z→
  ∃G,repE w (es.set i (splice el off ds)) (splice us (i * z+off) vs) G∧∀b∈G,b∈F∨b∈F2
 | [],us,F,F2,i,off,el,ds,vs,_,_,hi,_,_=>by simp at hi
 | e::es,us,F,F2,i,off,el,ds,vs,h,hz,hi,h',hle=>by
  obtain ⟨u1,u2,Fa,Fb,rfl,rfl,k1,k2⟩:=h
  have hl1:u1.length=z:=by rw [Qax k1];exact hz e List.mem_cons_self
  have hvl:=Qax h'
  cases i with
  | zero=>
   simp only [List.getElem?_cons_zero,Option.some.injEq] at hi
   subst hi
   rw [List.set_cons_zero,Nat.zero_mul,Nat.zero_add,QfH (by omega)]
   obtain ⟨G,g1,g2⟩:=Ql2 k1 h' off
   refine ⟨G++Fb,⟨_,_,G,Fb,rfl,rfl,g1,k2⟩,fun b hb=>?_⟩
   rcases List.mem_append.1 hb with hb|hb
   ·rcases g2 b hb with h|h
    ·exact .inl (List.mem_append_left _ h)
    ·exact .inr h
   ·exact .inl (List.mem_append_right _ hb)
  | succ i=>
   simp only [List.getElem?_cons_succ] at hi
   have e1:(i+1) * z+off=u1.length+(i * z+off):=by rw [hl1,Nat.add_mul];omega
   rw [List.set_cons_succ,e1,QeO]
   obtain ⟨G,g1,g2⟩:=Qk4 k2 (fun x hx=>hz x (List.mem_cons_of_mem _ hx)) hi h' hle
   refine ⟨Fa++G,⟨_,_,Fa,G,rfl,rfl,k1,g1⟩,fun b hb=>?_⟩
   rcases List.mem_append.1 hb with hb|hb
   ·exact .inl (List.mem_append_left _ hb)
   ·rcases g2 b hb with h|h
    ·exact .inl (List.mem_append_right _ h)
    ·exact .inr h
end Go.Proofs.YtelbahebpmkfjaaGreat
namespace Go.Proofs.YtelbahebpmkfjaaGreat
open Go Go.RowKit
section
variable {X:Cx} {σ:AS} {o:Oper} {K:AS→Prop} {t:Nat}
theorem QgQ {a:Act} {w:World} {en:List Ent} (h:Rel1 X σ a w en) {p:Nat} {e:TypeId} {es:List (List D)} {dp:Bool} [te:TI X.P e] (hp:Qam σ.ob p=some (.row e es dp)) :
  ∃y∈en,y.nm=p∧y.ao=.row e es dp∧∃A c,y.val=.slice A es.length c∧es.length≤c∧(A=none→c=0)∧(0<es.length→∃g,A=some ⟨g,0,none⟩)∧∀l∈y.ao.lens,l=te.size:=by
 obtain ⟨y,hy,hyn,hya⟩:=h.ent hp
 have hok:=h.mem.ok y hy
 unfold EntOk at hok
 rw [hya] at hok
 obtain ⟨z,us,k0,k1,k2,k3,_⟩:=hok
 have hz:z=te.size:=by rw [te.sized] at k0;simpa using k0.symm
 subst hz
 obtain ⟨A,c,g1,g2,g3,g4,g5⟩:=Qbh k2
 refine ⟨y,hy,hyn,hya,A,c,g1,g2,g4,g5,fun l hl=>?_⟩
 rw [hya] at hl
 obtain ⟨el,hel,rfl⟩:=List.mem_map.1 hl
 exact k3 el hel
theorem Qqd {T e:TypeId} {x:Operand} {low high:Option Operand} {p n i j:Nat} {es:List (List D)} {dp:Bool} {u v:Int} [te:TI X.P e] (ho:o.op=.slice T x low high none) (hd:o.dst=some t) (hT:QaZ X T=some e) (hx:σ.ev x=.row p) (hp:Qam σ.ob p=some (.row e es dp)) (hn:es.length=n)
  (hlo:σ.low low=some u) (hi:u=(i:Int)) (hhi:σ.high n high=some v) (hj:v=(j:Int)) (hb:i≤j∧j≤n) (ht:Nat.blt t σ.nt=true) (hK:K (σ.put t (.sub p i j))):QOk X o σ K:=by
 subst hi;subst hj;subst hn
 refine Qbc hd ht (fun a w en h=>?_) hK
 have hu:=QaN hT
 obtain ⟨y,hy,hyn,hya,A,c,g1,g2,g4,g5,g6⟩:=QgQ h hp
 obtain ⟨y',hy',e1,e2,e3⟩:=QaS h hx
 have:=h.mem.ent_unique hy' hy (e1.trans hyn.symm)
 subst this
 obtain ⟨q,h12,_,h13,_⟩:=te.parts
 have hbnd:=fun w'=>QgM (P:=X.P) (w:=w') (isS:=true) (len:=es.length) (cap:=c) (QmD h hlo) (QjR h hhi) hb.1 (Nat.le_trans hb.2 g2)
 refine ⟨subV A c te.size i j,fun w' _=>?_,y',hy',e1,e2,⟨hb.1,by rw [hya];simpa [AO.lens] using hb.2⟩,A,_,c,te.size,g1,g6,rfl⟩
 rw [g1] at e3
 simp only [execOp,ho,e3,Instr.sliceAt,Sem.run_bind,run_underlying hu,Instr.slice,Option.map_none,hbnd w',sizeOf,typeInfo,run_program,h12,h13,Sem.run_pure,Result.andThen]
 rfl
theorem QrP {x:Operand} {T e:TypeId} {p i j:Nat} (ho:o.op=.call { callee:=.builtin .len,args:=#[x],argTypes:=#[T] }) (hd:o.dst=some t) (hT:QaZ X T=some e) (hx:σ.ev x=.sub p i j) (ht:Nat.blt t σ.nt=true)
  (hK:K (σ.put t (.d (.n .i64 ((j - i:Nat):Int))))):QOk X o σ K:=
 Qbc hd ht (fun a w en h=>by
  have hu:=QaN hT
  obtain ⟨y,hy,e1,e2,e3,A,n,c,z,e4,e5,e6⟩:=QaS h hx
  refine ⟨.int .i64 ((j - i:Nat):Int),fun w' _=>?_,[],⟨rfl,rfl⟩,by simp⟩
  have e7:a.eval x=.slice (if c=i then A else A.map (·.add (i * z))) (j - i) (c - i):=e6
  simp [execOp,ho,resolve,invoke,builtin,e7,Builtin.len_,run_underlying hu,goInt,Sem.run_pure]) hK
theorem Qq4 {T e:TypeId} {x y:Operand} {p i j k:Nat} {es:List (List D)} {dp:Bool} {q:Int} [te:TI X.P e] (ho:o.op=.indexAddr T x y) (hd:o.dst=some t) (hT:QaZ X T=some e) (hx:σ.ev x=.sub p i j) (hp:Qam σ.ob p=some (.row e es dp)) (hy:σ.ev y=.d (.n .i64 q))
  (hq:q=(k:Int)) (hlt:k<j - i) (hz:Nat.beq te.size 0=false) (ht:Nat.blt t σ.nt=true) (hK:K (σ.put t (.pr p (i+k) 0))):QOk X o σ K:=
 Qbc hd ht (fun a w en h=>by
  subst hq
  have hu:=QaN hT
  obtain ⟨z,hzm,hzn,hza,A,c,g1,g2,g4,g5,g6⟩:=QgQ h hp
  obtain ⟨z',hz',e1,e2,e3,A',n,c',z0,e4,e5,e6⟩:=QaS h hx
  have:=h.mem.ent_unique hz' hzm (e1.trans hzn.symm)
  subst this
  rw [g1] at e4
  injection e4 with e7 e8 e9
  subst e7;subst e9
  have hlen:z'.ao.lens.length=es.length:=by rw [hza];simp [AO.lens]
  rw [hlen] at e3
  obtain ⟨g,hg⟩:=g5 (by omega)
  subst hg
  have hz0:z0=te.size:=by
   have h1:es.length≠0:=by omega
   obtain ⟨l,hl⟩:∃l,l∈z'.ao.lens:=by
    cases hq:z'.ao.lens with
    | nil=>rw [hq] at hlen;simp at hlen;omega
    | cons l ls=>exact ⟨l,List.mem_cons_self⟩
   rw [←e5 l hl,g6 l hl]
  subst hz0
  obtain ⟨G,⟨ey,_⟩,_⟩:=QaS h hy
  obtain ⟨qi,h12,_,h13,_⟩:=te.parts
  have hc:¬c=i:=by omega
  have e7:a.eval x=.slice (some ⟨g,0+i * te.size,none⟩) (j - i) (c - i):=by
   rw [e6,subV,if_neg hc,Option.map_some,QbK]
  refine ⟨.pointer (some ⟨g,(i+k) * te.size+0,none⟩),fun w' _=>?_,z',hz',hzn,e2,g,te.size,by rw [g1];rfl,g6,by rw [hlen];omega,rfl⟩
  have hkk:(0:Int)≤(k:Int)∧(k:Int)<((j - i:Nat):Int):=by omega
  have hmul:0+i * te.size+k * te.size=(i+k) * te.size+0:=by rw [Nat.add_mul];omega
  have hz':¬qi.size=0:=by
   rw [h13];intro e0
   rw [e0] at hz;cases hz
  simp [execOp,ho,e7,ey,Instr.indexAt,asIntOf,run_underlying hu,hlt,sizeOf,typeInfo,h12,h13,Sem.run_pure,QbK,Nat.add_mul]) hK
end
theorem QoT {P:Program} {f:FuncId} {e:TypeId} {es es':List (List D)} {d:Bool} {z:Nat} (hz:(P.info? e).map (·.size)=some z) (hfl:Qcn es=true) (hfl':Qcn es'=true) (hl:es'.map List.length=es.map List.length) (hent:∀us w',(callFunc f us).run P w'=.ok (.enter f us) w')
  (h:∀(w:World) (v:Value) (us:List Value),w.ownsRow 0 e z v es.length us→repE w es us []→Calls P f #[v] w fun en w'=>en=.returned (.tuple #[])∧w.grownBy w' (blk v)∧∃us',w'.ownsRow 0 e z v es.length us'∧repE w' es' us' []) :
  MCalls P f [.row 1000000] [(1000000,.row e es d)] (fun _:Unit=>True) (fun _=>[]) (fun _=>[(1000000,.row e es' d)]) (fun _=>[]):=by
 have hlen:es'.length=es.length:=by have:=congrArg List.length hl;simpa using this
 refine ⟨⟨⟨.inr (.inl hfl),trivial⟩,fun _ _=>⟨⟨⟨rfl,rfl,hl.symm⟩,trivial⟩,.inr (.inl hfl'),trivial⟩⟩,?_⟩
 intro w Zp eh us hm hkey hsh
 obtain ⟨x,rfl⟩:∃x,eh=[x]:=by
  cases eh with
  | nil=>exact absurd (congrArg List.length hkey) (by simp)
  | cons x l=>
   cases l with
   | nil=>exact ⟨x,rfl⟩
   | cons y l=>exact absurd (congrArg List.length hkey) (by simp)
 simp only [List.map_cons,List.map_nil,Ent.key,List.cons.injEq,Prod.mk.injEq,and_true] at hkey
 obtain ⟨hxn,hxa⟩:=hkey
 obtain ⟨v,us',rfl,hv,hnil⟩:=hsh
 have hnil':us'=[]:=hnil
 subst hnil'
 obtain ⟨y,hy,hyn,hyr,hyv⟩:=hv
 have hyx:y=x:=by simpa using hy
 subst hyx
 have hok:=hm.ok y List.mem_cons_self
 have hokc:=hok
 unfold EntOk at hok
 rw [hxa] at hok
 obtain ⟨z',vs,k0,k1,k2,k3,k4,k5,k6,k7⟩:=hok
 have hzz:z'=z:=by rw [hz] at k0;simpa using k0.symm
 subst hzz
 have hfs:=Qcb k4 (QbU hfl)
 rw [hfs] at k4
 subst hyv
 refine ⟨fun w'=>hent _ w',(h w y.val vs k2 k4).mono fun en w' ⟨he,hg,vs',ho,hr⟩=>⟨(),.tuple #[],[⟨1000000,.row e es' d,y.val,[]⟩],⟨trivial,rfl⟩,he,⟨hg.os,hg.tape,hg.output,hg.size,fun b hb hO=>?_,by simp,by simp,fun q hq=>?_,by simp,fun q hq=>?_⟩,?_,[],rfl,rfl⟩⟩
 ·exact hg.block b hb fun e=>hO ⟨y,List.mem_cons_self,.inl e.symm⟩
 ·have hqx:q=⟨1000000,.row e es' d,y.val,[]⟩:=by simpa using hq
  subst hqx
  unfold EntOk
  refine ⟨z',vs',hz,k1,by rw [hlen];exact ho,fun el hel=>?_,hr,by simp,k6,fun _=>⟨by simp,by simp,NstL.nilE hr⟩⟩
  have h1:el.length∈es.map List.length:=by rw [←hl];exact List.mem_map.2 ⟨el,hel,rfl⟩
  obtain ⟨el',hel',e1⟩:=List.mem_map.1 h1
  rw [←e1]
  exact k3 el' hel'
 ·have hqx:q=⟨1000000,.row e es' d,y.val,[]⟩:=by simpa using hq
  subst hqx
  intro _ q hq hqn
  have:q=y:=by simpa using hq
  rw [this]
 ·exact List.Perm.refl _
theorem Qig (w:World):∀(l:List Int),repE w (intE l) (l.map (Value.int .i64)) []
 | []=>⟨rfl,rfl⟩
 | x::l=>⟨[.int .i64 x],l.map (Value.int .i64),[],[],rfl,rfl,⟨.int .i64 x,[],[],[],rfl,rfl,⟨rfl,rfl⟩,rfl,rfl⟩,Qig w l⟩
theorem Qdh {w:World}:∀{l:List Int} {us:List Value} {F:List Nat},repE w (intE l) us F→us=l.map (Value.int .i64)
 | [],us,F,h=>h.1
 | b::l,us,F,h=>by
  obtain ⟨u1,u2,F1,F2,rfl,rfl,k1,k2⟩:=h
  obtain ⟨u,us',G1,G2,rfl,rfl,⟨rfl,rfl⟩,k3⟩:=k1
  rw [k3.1,Qdh k2]
  rfl
end Go.Proofs.YtelbahebpmkfjaaGreat
namespace Go.Proofs.YtelbahebpmkfjaaGreat
open Go Go.RowKit
section
variable {X:Cx} {σ:AS} {o:Oper} {K:AS→Prop} {t:Nat}
theorem QwF {p:Nat} {ao ao':AO} (hp:Qam σ.ob p=some ao) (hd:o.dst=none) (hrow:ao'.isRow=ao.isRow) (hlens:ao'.lens=ao.lens) (hdeep:ao'.deep=ao.deep)
    (h:∀a w en y,Rel1 X σ a w en→y∈en→y.nm=p→y.ao=ao→EntOk X.P (Frs X.w0 X.O) w en (IM X en w) y→∃(g:Nat) (cur:Array Value),blk y.val=some g∧(execOp a.eval o).run X.P w=.ok (.value (.tuple #[])) (w.setRow g cur)∧
      ((∀(z:AV) (q:Value),z.shows w en (IM X en w) q→z.shows (w.setRow g cur) (⟨p,ao',y.val,y.fs⟩::Qbk (fun _=>true) p en) (IM X (⟨p,ao',y.val,y.fs⟩::Qbk (fun _=>true) p en) (w.setRow g cur)) q)→
       (∀b,IM X en w b→IM X (⟨p,ao',y.val,y.fs⟩::Qbk (fun _=>true) p en) (w.setRow g cur) b∧Same w (w.setRow g cur) b)→
        EntOk X.P (Frs X.w0 X.O) (w.setRow g cur) (⟨p,ao',y.val,y.fs⟩::Qbk (fun _=>true) p en) (IM X (⟨p,ao',y.val,y.fs⟩::Qbk (fun _=>true) p en) (w.setRow g cur)) ⟨p,ao',y.val,y.fs⟩))
    (hK:K ⟨σ.nt,σ.sl,(p,ao')::QbA p σ.ob⟩):OpOk X o σ K:=by
  intro a w hr next Q hn
  obtain ⟨en,h1⟩:=hr
  obtain ⟨y,hy,hyn,hya⟩:=h1.ent hp
  obtain ⟨g,cur,h2,h3,h4⟩:=h a w en y h1 hy hyn hya (h1.mem.ok y hy)
  have hs:Swap X.P X.w0 X.Z X.O en w (w.setRow g cur) p ⟨p,ao',y.val,y.fs⟩ (fun _=>true):=
    ⟨h1.mem,fun _ _=>rfl,fun _ x hx e=>by
        have:=h1.mem.ent_unique hx hy (e.trans hyn.symm)
        subst this
        exact ⟨e.symm,rfl,by rw [hya];exact hrow,by rw [hya];exact hlens⟩,rfl,rfl,rfl,by simp,
      fun b hb hno=>setRow_other w g b cur (fun e=>hno y hy hyn (e▸h2)),fun b hb=>.inr ⟨y,hy,hyn,by
      rcases hb with hb|⟨hd,hb⟩
      · exact .inl hb
      · exact .inr ⟨by rw [hya,←hdeep];exact hd,hb⟩⟩,rfl,hyn▸h1.mem.fix y hy⟩
  have h7:=h1.swap_keep hs (h4 (fun z q hz=>by have:=hs.shows hz;rwa [AV.cut_true] at this) (fun b hb=>⟨hs.imm hb,hs.same hb⟩)) (fun hd z hz hzn hdz b hb=>by
    exact h1.mem.apart_ne hy hz (fun e=>hzn (e.symm.trans hyn)) (by rw [hya,←hdeep];exact hd) hdz hb)
  unfold Oper.wp
  rw [h3,Oper.upon_value,hd]
  exact hn _ _ _ hK ⟨_,h7⟩
theorem Qi8 {T e:TypeId} {x:Operand} {p i j:Nat} {es:List (List D)} {dp:Bool} {zd:List D} [te:TI X.P e] (ho:o.op=.call { callee:=.builtin .clear,args:=#[x],argTypes:=#[T] }) (hd:o.dst=none) (hT:QaZ X T=some e) (hx:σ.ev x=.sub p i j) (hp:Qam σ.ob p=some (.row e es dp))
  (hk:ElemOk te) (hz1:te.zero.cells.toList.all Value.oneCell'=true) (hzd:(QbX (Qde te.zero)).bind (fun l=>Qd2 l some)=some zd) (hfz:zd.all D.flat1=true) (hlz:Nat.beq zd.length te.size=true) (hfl:Qcn es=true) (hij:i<j)
  (hK:K ⟨σ.nt,σ.sl,(p,.row e (es.take i++(List.replicate (j - i) zd++es.drop j)) dp)::QbA p σ.ob⟩):OpOk X o σ K:=by
 have hzd':QbX (Qde te.zero)=some zd:=by
  cases hz:QbX (Qde te.zero) with
  | none=>rw [hz] at hzd;cases hzd
  | some l=>rw [hz,Option.bind_some,QeJ] at hzd;exact hzd
 have hzv:∀w,(zeroValue e).run X.P w=.ok te.zero w:=fun w=>by
  obtain ⟨q,q1,q2,_⟩:=te.parts
  simp [zeroValue,typeInfo,q1,q2]
 have hzl:zd.length=te.size:=(Qai _ _).1 hlz
 have hpos:=Qa7 hk.pos
 have hzc:te.zero.cells.size=te.size:=(Qai _ _).1 hk.zero
 intro a w hr
 obtain ⟨en0,h0⟩:=id hr
 obtain ⟨y0,hy0,f1,f2,f3,_,_,_,_,f4,f5,_⟩:=QaS h0 hx
 obtain ⟨y1,hy1,g1,g2,_,_,_,_,_,_,g3⟩:=QgQ h0 hp
 have:=h0.mem.ent_unique hy0 hy1 (f1.trans g1.symm)
 subst this
 rw [g2] at f3
 simp only [AO.lens,List.length_map] at f3
 have hsz:∀el∈es,el.length=te.size:=fun el hel=>g3 _ (by rw [g2];exact List.mem_map.2 ⟨el,hel,rfl⟩)
 refine QwF (ao':=.row e (es.take i++(List.replicate (j - i) zd++es.drop j)) dp) hp hd rfl ?_ rfl (fun a w en z h1 hz hzn hza hok=>?_) hK a w hr
 ·simp only [AO.lens]
  refine List.ext_getElem? fun k=>?_
  have key:∀(l:List (List D)),(∀el∈l,el.length=te.size)→∀k,(l.map List.length)[k]?=if k<l.length then some te.size else none:=fun l hl k=>by
   rw [List.getElem?_map]
   split
   ·rename_i hk
    rw [List.getElem?_eq_getElem hk,Option.map_some,hl _ (List.getElem_mem hk)]
   ·rename_i hk
    rw [List.getElem?_eq_none (by omega)]
    rfl
  rw [key _ hsz,key]
  ·congr 1
   simp only [List.length_append,List.length_take,List.length_replicate,List.length_drop,eq_iff_iff]
   omega
  ·intro el hel
   rcases List.mem_append.1 hel with h|h
   ·exact hsz _ (List.mem_of_mem_take h)
   ·rcases List.mem_append.1 h with h|h
    ·rw [List.eq_of_mem_replicate h];exact hzl
    ·exact hsz _ (List.mem_of_mem_drop h)
 ·have hok':=hok
  unfold EntOk at hok
  rw [hza] at hok
  obtain ⟨s,us,k0,k1,k2,k3,k4,k5,k6,k7⟩:=hok
  have hss:s=te.size:=by rw [te.sized] at k0;simpa using k0.symm
  subst hss
  obtain ⟨z',hz',e1,e2,e3,A',n,c',z0,e4,e5,e6⟩:=QaS h1 hx
  have:=h1.mem.ent_unique hz' hz (e1.trans hzn.symm)
  subst this
  rcases k2.2 with ⟨hv,hn0⟩|⟨g,cap,cur,hv,hbg,hg,hnc,hcm,hcs,htake⟩
  ·omega
  ·rw [hv] at e4
   injection e4 with e7 e8 e9
   subst e7;subst e9
   have hz0:z0=te.size:=by
    obtain ⟨el,hel⟩:∃el,el∈es:=by
     cases es with
     | nil=>simp at f3;omega
     | cons q l=>exact ⟨q,List.mem_cons_self⟩
    rw [←e5 el.length (by rw [hza];exact List.mem_map.2 ⟨el,hel,rfl⟩),hsz el hel]
   subst hz0
   have hc:¬cap=i:=by omega
   have e10:a.eval x=.slice (some ⟨g,0+i * te.size,none⟩) (j - i) (cap - i):=by
    rw [e6,subV,if_neg hc,Option.map_some,QbK]
   have hvs:(Builtin.zeroCells te.zero.cells (j - i)).toList=(List.replicate (j - i) te.zero.cells.toList).flatten:=by
    unfold Builtin.zeroCells
    exact Qd7 te.zero.cells (j - i) (by omega)
   have hvl:(List.replicate (j - i) te.zero.cells.toList).flatten.length=(j - i) * te.size:=by
    rw [List.length_flatten,List.map_replicate,List.sum_replicate_nat,Array.length_toList,hzc]
   have hjs:j * te.size=i * te.size+(j - i) * te.size:=by rw [←Nat.add_mul];congr 1;omega
   have hjc:j * te.size≤cap * te.size:=Nat.mul_le_mul_right _ (by omega)
   have h1c:∀v∈(List.replicate (j - i) te.zero.cells.toList).flatten,v.oneCell'=true:=fun v hv=>by
    obtain ⟨l,hl,hvl⟩:=List.mem_flatten.1 hv
    rw [List.eq_of_mem_replicate hl] at hvl
    exact List.all_eq_true.1 hz1 v hvl
   have hst:=run_storeCells_at X.P g (0+i * te.size) e ((List.replicate (j - i) te.zero.cells.toList).flatten) 0 cur w hg (by rw [hvl];omega) h1c
   refine ⟨g,(cur.toList.take (0+i * te.size+0)++(List.replicate (j - i) te.zero.cells.toList).flatten++cur.toList.drop (0+i * te.size+0+(List.replicate (j - i) te.zero.cells.toList).flatten.length)).toArray,by rw [hv];rfl,?_,fun hT' hIS=>?_⟩
   ·have hu:=QaN hT
    have hji:j - i≠0:=by omega
    have hrun:(Builtin.clear_ #[T] o.type #[a.eval x]).run X.P w=.ok (.tuple #[]) (w.setRow g (cur.toList.take (0+i * te.size+0)++(List.replicate (j - i) te.zero.cells.toList).flatten++cur.toList.drop (0+i * te.size+0+(List.replicate (j - i) te.zero.cells.toList).flatten.length)).toArray):=by
     rw [e10]
     obtain ⟨m,hm⟩:∃m,j - i=m+1:=⟨j - i - 1,by omega⟩
     simp only [Builtin.clear_]
     rw [hm] at hst hvs ⊢
     simp only [List.getElem?_toArray,List.getElem?_cons_zero,Sem.run_bind,run_underlying hu,Result.andThen,hzv,hvs,hst,Sem.run_pure]
    simp only [execOp,ho,resolve,Sem.run_bind,Sem.run_pure,Result.andThen,invoke,builtin,List.map_toArray,List.map_cons,List.map_nil]
    rw [hrun]
   ·have hfs:=Qcb k4 (QbU hfl)
    rw [hfs] at k4
    have hspl:es=es.take i++((es.take j).drop i++es.drop j):=by
     have:(es.take j).take i=es.take i:=by rw [List.take_take];congr 1;omega
     rw [←this,←List.append_assoc,List.take_append_drop,List.take_append_drop]
    rw [hspl] at k4
    obtain ⟨u1,u23,F1,F23,hus,hF1,r1,r2⟩:=QbS k4
    obtain ⟨u2,u3,F2,F3,hus2,hF2,r3,r4⟩:=QbS r2
    have hF:F1=[]∧F2=[]∧F3=[]:=by
     rw [hF2] at hF1
     have:=congrArg List.length hF1
     simp only [List.length_nil,List.length_append] at this
     exact ⟨List.eq_nil_of_length_eq_zero (by omega),List.eq_nil_of_length_eq_zero (by omega),List.eq_nil_of_length_eq_zero (by omega)⟩
    obtain ⟨rfl,rfl,rfl⟩:=hF
    have hu1:u1.length=i * te.size:=by
     rw [Qa0 r1 (fun x hx=>hsz x (List.mem_of_mem_take hx))]
     congr 1
     simp;omega
    have hu2:u2.length=(j - i) * te.size:=by
     rw [Qa0 r3 (fun x hx=>hsz x (List.mem_of_mem_take (List.mem_of_mem_drop hx)))]
     congr 1
     simp;omega
    have hu3:u3.length=(es.length - j) * te.size:=by
     rw [Qa0 r4 (fun x hx=>hsz x (List.mem_of_mem_drop hx))]
     congr 1
     simp
    obtain ⟨Fz,kz1,kz2⟩:=QbZ (w:=w) (en:=[]) (I:=fun _=>True) hzd' (Qcd te.zero.cells.toList)
    have hFz:Fz=[]:=Qbi kz1 (Qa2 hfz)
    subst hFz
    have hlen':(es.take i++(List.replicate (j - i) zd++es.drop j)).length=es.length:=by
     simp only [List.length_append,List.length_take,List.length_replicate,List.length_drop]
     omega
    have hnew:cur.toList.take (0+i * te.size+0)++(List.replicate (j - i) te.zero.cells.toList).flatten++cur.toList.drop (0+i * te.size+0+(List.replicate (j - i) te.zero.cells.toList).flatten.length)=u1++((List.replicate (j - i) te.zero.cells.toList).flatten++u3)++cur.toList.drop (es.length * te.size):=by
     have htot:es.length * te.size=i * te.size+((j - i) * te.size+(es.length - j) * te.size):=by
      rw [←Nat.add_mul,←Nat.add_mul];congr 1;omega
     have hc1:cur.toList=(u1++(u2++u3))++cur.toList.drop (es.length * te.size):=by
      rw [←hus2,←hus,←htake,List.take_append_drop]
     have hcl:(u1++(u2++u3)).length=es.length * te.size:=by
      simp only [List.length_append,hu1,hu2,hu3,htot]
     have key:∀(a b c d v:List Value),((a++(b++c))++d).take a.length++v++((a++(b++c))++d).drop (a.length+b.length)=a++(v++c)++d:=fun a b c d v=>by
      rw [List.append_assoc a,List.take_left,←List.drop_drop,List.drop_left,List.append_assoc b,List.drop_left]
      simp
     have:=key u1 u2 u3 (cur.toList.drop (es.length * te.size)) (List.replicate (j - i) te.zero.cells.toList).flatten
     rw [←hc1,hu1,hu2] at this
     rw [hvl,Nat.zero_add,Nat.add_zero]
     exact this
    have hrep:repE (w.setRow g (cur.toList.take (0+i * te.size+0)++(List.replicate (j - i) te.zero.cells.toList).flatten++cur.toList.drop (0+i * te.size+0+(List.replicate (j - i) te.zero.cells.toList).flatten.length)).toArray) (es.take i++(List.replicate (j - i) zd++es.drop j)) (u1++((List.replicate (j - i) te.zero.cells.toList).flatten++u3)) []:=by
     have q1:=QaF (w':=w.setRow g (cur.toList.take (0+i * te.size+0)++(List.replicate (j - i) te.zero.cells.toList).flatten++cur.toList.drop (0+i * te.size+0+(List.replicate (j - i) te.zero.cells.toList).flatten.length)).toArray) (by simp) _ _ _ r1 (by simp)
     have q3:=QaF (w':=w.setRow g (cur.toList.take (0+i * te.size+0)++(List.replicate (j - i) te.zero.cells.toList).flatten++cur.toList.drop (0+i * te.size+0+(List.replicate (j - i) te.zero.cells.toList).flatten.length)).toArray) (by simp) _ _ _ r4 (by simp)
     have q2:=QbQ (QdE (w':=w.setRow g (cur.toList.take (0+i * te.size+0)++(List.replicate (j - i) te.zero.cells.toList).flatten++cur.toList.drop (0+i * te.size+0+(List.replicate (j - i) te.zero.cells.toList).flatten.length)).toArray) (by simp) _ _ _ kz1 (by simp)) (j - i)
     have:=Qb7 q1 (Qb7 q2 q3)
     simpa using this
    unfold EntOk
    refine ⟨te.size,u1++((List.replicate (j - i) te.zero.cells.toList).flatten++u3),k0,k1,?_,fun el hel=>?_,?_,by rw [hfs];simp,k6,fun hd=>⟨by rw [hfs];simp,by rw [hfs];simp,NstL.nilE hrep⟩⟩
    ·have hul:(u1++((List.replicate (j - i) te.zero.cells.toList).flatten++u3)).length=es.length * te.size:=by
      simp only [List.length_append,hu1,hvl,hu3]
      rw [←Nat.add_mul,←Nat.add_mul];congr 1;omega
     refine ⟨by rw [hlen'];exact hul,.inr ⟨g,cap,_,by rw [hv,hlen'],Nat.zero_le _,setRow_heap w g cur _ e _ hg,by rw [hlen'];exact hnc,hcm,?_,?_⟩⟩
     ·rw [hnew]
      show List.length _=_
      have h4:(cur.toList.drop (es.length * te.size)).length=cap * te.size - es.length * te.size:=by rw [List.length_drop,Array.length_toList,hcs]
      have:es.length * te.size≤cap * te.size:=Nat.mul_le_mul_right _ hnc
      rw [List.length_append,hul,h4]
      omega
     ·rw [hnew,hlen',List.take_append_of_le_length (by omega),←hul,List.take_length]
    ·rcases List.mem_append.1 hel with h|h
     ·exact hsz _ (List.mem_of_mem_take h)
     ·rcases List.mem_append.1 h with h|h
      ·rw [List.eq_of_mem_replicate h];exact hzl
      ·exact hsz _ (List.mem_of_mem_drop h)
    ·rw [hfs]
     exact hrep
end
theorem QjN (t:Nat) {X:Cx} {c:Code} {Q:Exit→AS→Prop} {σ:AS} {p:Nat} {e:TypeId} {es:List (List D)} {dp:Bool} (n:Nat) (hv:look σ.sl t=.row p) (hp:Qam σ.ob p=some (.row e es dp)) (hn:es.length=n) (h:AWp X c Q (σ.put t (.sub p 0 n))):AWp X c Q σ:=fun a w ⟨en,hr⟩=>by
 refine h a w ⟨en,⟨hr.mem,hr.ob,hr.defers,hr.size,fun s=>?_⟩⟩
 simp only [AS.put,QaH]
 split
 ·rename_i e1
  subst e1
  have h1:=hr.slots t
  rw [hv] at h1
  obtain ⟨y,hy,h2,h3,h4⟩:=h1
  obtain ⟨y',hy',h5,h6⟩:=hr.ent hp
  have:=hr.mem.ent_unique hy hy' (h2.trans h5.symm)
  subst this
  have hok:=hr.mem.ok y hy
  unfold EntOk at hok
  rw [h6] at hok
  obtain ⟨z,us,k0,k1,k2,k3,_⟩:=hok
  obtain ⟨A,c',g1,_⟩:=Qbh k2
  refine ⟨y,hy,h2,h3,⟨Nat.zero_le _,by rw [h6];simp [AO.lens,hn]⟩,A,_,c',z,g1,fun l hl=>?_,?_⟩
  ·rw [h6] at hl
   obtain ⟨el,hel,rfl⟩:=List.mem_map.1 hl
   exact k3 el hel
  ·rw [h4,g1,subV,Nat.zero_mul,hn]
   have:(if c'=0 then A else A.map (·.add 0))=A:=by
    split
    ·rfl
    ·cases A with
     | none=>rfl
     | some a=>simp [Addr.add]
   rw [this]
   rfl
 ·exact hr.slots s
end Go.Proofs.YtelbahebpmkfjaaGreat
namespace Go.Proofs.YtelbahebpmkfjaaGreat
open Go Go.RowKit

section
variable {X:Cx} {σ:AS} {o:Oper} {K:AS→Prop} {t:Nat}
theorem Qnp {es:List (List D)} {i:Nat} {el el':List D} (hel:es[i]?=some el) (h:el'.length=el.length):(es.set i el').map List.length=es.map List.length:=by
 rw [List.map_set,h]
 refine List.ext_getElem? fun k=>?_
 rw [List.getElem?_set]
 split
 ·rename_i hk
  subst hk
  split
  ·rw [List.getElem?_map,hel];rfl
  ·rename_i hk
   rw [List.getElem?_eq_none (by simpa using hk)]
 ·rfl
theorem QpI {T e:TypeId} {x y:Operand} {p i off n:Nat} {es:List (List D)} {dp:Bool} {el ds:List D} {xs:List AV} [ti:TI X.P T] (ho:o.op=.store T x y) (hd:o.dst=none) (hx:σ.ev x=.pr p i off) (hp:Qam σ.ob p=some (.row e es dp)) (hy:(σ.ev y).cellsV=some xs) (hds:QbX xs=some ds)
  (hn:es.length=n) (hlt:i<n) (hel:es[i]?=some el) (hl:Nat.beq ds.length ti.size=true) (hfit:Nat.ble (off+ti.size) el.length=true)
  (hK:K ⟨σ.nt,σ.sl,(p,.row e (es.set i (splice el off ds)) false)::QbA p σ.ob⟩):OpOk X o σ K:=by
 intro a w hr next Q hn'
 obtain ⟨en,h1⟩:=hr
 have hdl:ds.length=ti.size:=(Qai _ _).1 hl
 have hfit':off+ti.size≤el.length:=Nat.le_of_ble_eq_true hfit
 obtain ⟨z,hz,hzn,hza⟩:=h1.ent hp
 have hok:=h1.mem.ok z hz
 unfold EntOk at hok
 rw [hza] at hok
 obtain ⟨s,us,k0,k1,k2,k3,k4,k5,k6,k7⟩:=hok
 obtain ⟨z',hz',e1,e2,g',s',e3,e4,e5,e6⟩:=QaS h1 hx
 have:=h1.mem.ent_unique hz' hz (e1.trans hzn.symm)
 subst this
 rw [hza] at e4 e5
 have hsl:s'=s:=by
  have:=e4 el.length (List.mem_map.2 ⟨el,List.mem_of_getElem? hel,rfl⟩)
  rw [←this,k3 el (List.mem_of_getElem? hel)]
 subst hsl
 have hels:el.length=s':=k3 el (List.mem_of_getElem? hel)
 obtain ⟨h6,h7⟩:=Qb5 h1.mem hy (AS.ev_shows h1 y)
 obtain ⟨F,g1,g2⟩:=QbZ hds h6
 have hcl:(a.eval y).cells.toList.length=ti.size:=by rw [Qax g1];exact hdl
 obtain ⟨G,gg1,gg2⟩:=Qk4 k4 k3 hel g1 (off:=off) (by omega)
 rcases k2.2 with ⟨hv,h0⟩|⟨g,cap,cur,hv,hbg,hg,hnc,hcm,hcs,htake⟩
 ·omega
 ·rw [hv] at e3
  simp only [blk,Option.some.injEq] at e3
  subst e3
  have hin:i * s'+s'≤es.length * s':=by
   have:(i+1) * s'≤es.length * s':=Nat.mul_le_mul_right _ (by omega)
   rwa [Nat.add_mul,Nat.one_mul] at this
  have hcap:es.length * s'≤cap * s':=Nat.mul_le_mul_right _ hnc
  let nc:Array Value:=(splice cur.toList (i * s'+off) (a.eval y).cells.toList).toArray
  have hrun:(execOp a.eval o).run X.P w=.ok .skip (w.setRow g nc):=by
   have h8:=Qcc (P:=X.P) (T:=T) (off:=i * s'+off) (v:=a.eval y) hg (by rw [ti.sized,←Array.length_toList,hcl]) (by rw [←Array.length_toList,hcl,hcs];omega) h7
   simp only [execOp,ho,e6,Sem.run_bind,h8,Result.andThen]
   rfl
  have hb1:blk z'.val=some g:=by rw [hv];rfl
  let x':Ent:=⟨p,.row e (es.set i (splice el off ds)) false,z'.val,G⟩
  have hlen:(AO.row e (es.set i (splice el off ds)) false).lens=(AO.row e es dp).lens:=Qnp hel (QaP (by omega))
  have hs:Swap X.P X.w0 X.Z X.O en w (w.setRow g nc) p x' (fun _=>true):=
   ⟨h1.mem,fun _ _=>rfl,fun _ x hx e=>by
     have:=h1.mem.ent_unique hx hz' (e.trans e1.symm)
     subst this
     exact ⟨e.symm,rfl,by rw [hza];rfl,by rw [hza];exact hlen⟩,rfl,rfl,rfl,by simp,
    fun b hb hno=>setRow_other w g b nc (fun e=>hno z' hz' e1 (e▸hb1)),fun b hb=>.inr ⟨z',hz',e1,by
     rcases hb with hb|⟨hd,_⟩
     ·exact .inl hb
     ·cases hd⟩,rfl,e1▸h1.mem.fix z' hz'⟩
  have hGS:∀b∈G,Same w (w.setRow g nc) b:=fun b hb=>(gg2 b hb).elim (hs.same_fs hz' e1 k5 (fun hd=>(k7 hd).2.1) b) (fun h=>hs.same (g2 b h))
  have hGI:=fun (b:Nat) (hb:b∈G)=>(gg2 b hb).elim (hs.imm_fs hz' e1 (by rw [hza];rfl) k5 (fun hd=>(k7 hd).2.1) (fun hd b hb hq=>by
   rcases hq with hq|⟨hq,_⟩
   ·exact ((k7 hd).2.1 b hb).2.2 hq
   ·cases hq) b) (fun h=>hs.imm (g2 b h))
  have h9:=h1.swap_keep hs (by
   unfold EntOk
   refine ⟨s',splice us (i * s'+off) (a.eval y).cells.toList,k0,k1,?_,fun q hq=>?_,QaF (by simp) _ _ _ gg1 hGS,fun _ b hb=>hGI b hb,k6,fun h=>by cases h⟩
   ·have hul:us.length=es.length * s':=k2.1
    have hul2:i * s'+off+(a.eval y).cells.toList.length≤us.length:=by omega
    have hcl2:cur.toList.length=cap * s':=by rw [Array.length_toList];exact hcs
    refine ⟨by rw [QaP hul2,hul,List.length_set],.inr ⟨g,cap,_,by rw [hv,List.length_set],Nat.zero_le _,setRow_heap w g cur nc e _ hg,by rw [List.length_set];exact hnc,hcm,?_,?_⟩⟩
    ·simp only [nc,List.size_toArray]
     rw [QaP (by omega),Array.length_toList]
     exact hcs
    ·rw [List.length_set,←htake]
     exact Qer (by rw [←hul];exact hul2)
   ·rcases List.mem_or_eq_of_mem_set hq with hq|rfl
    ·exact k3 q hq
    ·rw [QaP (by omega)];exact hels) (fun hd=>by cases hd)
  unfold Oper.wp
  rw [hrun,Oper.upon_skip,hd]
  exact hn' _ _ _ hK ⟨_,h9⟩
end
end Go.Proofs.YtelbahebpmkfjaaGreat
