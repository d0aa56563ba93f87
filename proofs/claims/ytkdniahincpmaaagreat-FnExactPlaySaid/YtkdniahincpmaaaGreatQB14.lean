/-
  The library's sort by a function, at numbers: the leaves by how many nodes they have.
-/
import Derived.Test.YtkdniahincpmaaaGreatQB13
set_option maxRecDepth 100000
set_option maxHeartbeats 16000000
namespace Go.Proofs.YtkdniahincpmaaaGreat
open Go Go.RowKit Go.Sort Go.Shelf

def cfM(c:List Int)(x y:Int):Int:=if nth c x.toNat≠nth c y.toNat then nth c y.toNat-nth c x.toNat else x-y
theorem QgW{W:World}{p:Addr}{mb mo n cap:Nat}{c:List Int}{x y:Int}(h1:W.cell? p=some (.slice (some ⟨mb,mo,none⟩) n cap))(hn:n=c.length)(h2:∀j,j<n->W.cell? ⟨mb,mo+j,none⟩=some (.int .i64 (nth c j)))
  (h3:∀j,j<n->-1000000<=nth c j/\nth c j<=1000000) (hx:0<=x/\x<n) (hy:0<=y/\y<n) (hnn:n<=1000000) :
  Calls Tryz.prog 301 #[.int .i64 x,.int .i64 y,.pointer (some p)] W fun e w'=>e=.returned (.int .i64 (cfM c x y))/\∃q,w'=W.drewN q:=by
 obtain⟨f,g⟩:=hx
 obtain⟨i,k⟩:=hy
 have cx:=h2 x.toNat (by omega)
 have d:=h2 y.toNat (by omega)
 have bx:=h3 x.toNat (by omega)
 have b:=h3 y.toNat (by omega)
 by_cases a:nth c x.toNat=nth c y.toNat
 ·rw[show cfM c x y=x-y from if_neg (fun h=>h a)]
  rw[<-a]at d
  clear b
  generalize nth c x.toNat=u at *
  clear h2 h3 a
  go_enter Tryz.func301,Tryz.ntmps301
  go_wp2
  go_quiet (fail)
  go_wp2
  go_ret
  exact⟨rfl,_,rfl⟩
 ·rw[show cfM c x y=nth c y.toNat-nth c x.toNat from if_pos a]
  generalize nth c x.toNat=u at *
  generalize nth c y.toNat=v at *
  clear h2 h3
  go_enter Tryz.func301,Tryz.ntmps301
  go_wp2
  go_quiet (fail)
  go_wp2
  go_quiet (fail)
  go_wp2
  go_ret
  exact⟨rfl,_,World.drewN_drewN _ _ _⟩
theorem Qd6{P:Program}{f:FuncId}{e:TypeId}{es es':List (List D)}{d:Bool}{z:Nat}{xs:List AV}(hz:(P.info? e).map (·.size)=some z)(hfl:Wg es=true)(hfl':Wg es'=true)(hl:es'.map List.length=es.map List.length)(hent:∀us w',(callFunc f us).run P w'=.ok (.enter f us) w')
  (h:∀(w:World) (v:Value) (us us2:List Value) (en:List Ent) (S:Nat->Prop),w.ownsRow 0 e z v es.length us->repE w es us []->Qn w en S xs us2->(∀b,S b->b<w.heap.size/\blk v≠some b)->
   Calls P f (v::us2).toArray w fun en w'=>en=.returned (.tuple #[])/\w.grownBy w' (blk v)/\∃us',w'.ownsRow 0 e z v es.length us'/\repE w' es' us' []) :
  MCalls P f (.row 1000000::xs) [(1000000,.row e es d)] (fun _:Unit=>True) (fun _=>[]) (fun _=>[(1000000,.row e es' d)]) (fun _=>[]):=by
 have j:es'.length=es.length:=by have:=congrArg List.length hl;simpa using this
 refine⟨⟨⟨.inr (.inl hfl),trivial⟩,fun _ _=>⟨⟨⟨rfl,rfl,hl.symm⟩,trivial⟩,.inr (.inl hfl'),trivial⟩⟩,?_⟩
 intro w Zp eh us hm a p
 obtain⟨x,rfl⟩:∃x,eh=[x]:=by
  cases eh with
  | nil=>exact absurd (congrArg List.length a) (by simp)
  | cons x l=>
   cases l with
   | nil=>exact⟨x,rfl⟩
   | cons y l=>exact absurd (congrArg List.length a) (by simp)
 simp only[Xas,Xbj,Ent.key,XbC,Xci,and_true]at a
 obtain⟨aj,r⟩:=a
 obtain⟨v,us2,rfl,hv,m⟩:=p
 obtain⟨y,hy,al,am,s⟩:=hv
 have t:y=x:=by simpa using hy
 subst t
 have c:=hm.ok y Xaa
 unfold EntOk at c
 rw[r]at c
 obtain⟨z',vs,k0,k1,k2,k3,k4,k5,k6,k7⟩:=c
 have u:z'=z:=by rw[hz]at k0;simpa using k0.symm
 subst u
 have o:=YE k4 (Yt hfl)
 rw[o]at k4
 subst s
 refine⟨fun w'=>hent _ w',(h w y.val vs us2 _ _ k2 k4 m (fun b hb=>⟨hb.2.1,fun e=>hb.2.2 y Xaa (.inl e)⟩)).mono fun en w' ⟨he,hg,vs',ho,hr⟩=>⟨(),.tuple #[],[⟨1000000,.row e es' d,y.val,[]⟩],⟨trivial,rfl⟩,he,⟨hg.os,hg.tape,hg.output,hg.size,fun b hb hO=>?_,by simp,by simp,fun q k=>?_,by simp,fun q k=>?_⟩,?_,[],rfl,rfl⟩⟩
 ·exact hg.block b hb fun e=>hO ⟨y,Xaa,.inl e.symm⟩
 ·have g:q=⟨1000000,.row e es' d,y.val,[]⟩:=by simpa using k
  subst g
  unfold EntOk
  refine⟨z',vs',hz,k1,by rw[j];exact ho,fun el hel=>?_,hr,by simp,k6,fun _=>⟨by simp,by simp,NstL.nilE hr⟩⟩
  have h1:el.length∈es.map List.length:=by rw[<-hl];exact Xaf.2 ⟨el,hel,rfl⟩
  obtain⟨n,i,e1⟩:=Xaf.1 h1
  rw[<-e1]
  exact k3 n i
 ·have g:q=⟨1000000,.row e es' d,y.val,[]⟩:=by simpa using k
  subst g
  intro _ q k ah
  have:q=y:=by simpa using k
  rw[this]
 ·exact Xby _
theorem Qaq(c:List Int)(x y:Int):cfM c x y<0↔nth c y.toNat<nth c x.toNat\/nth c x.toNat=nth c y.toNat/\x<y:=by
 unfold cfM
 split <;> omega
theorem QwE{α:Type}(c:List Int)(f:α->Int):SWO (ltOf fun x y:α=>cfM c (f x) (f y)) where
 irrefl x:=decide_eq_false fun h=>by have:=(Qaq c _ _).1 h;omega
 trans x y z a b:=decide_eq_true ((Qaq c _ _).2 (by
  have a:=(Qaq c _ _).1 (of_decide_eq_true a)
  have b:=(Qaq c _ _).1 (of_decide_eq_true b)
  omega))
 ntrans x y z a b:=decide_eq_false fun h=>by
  have h:=(Qaq c _ _).1 h
  have a:¬_:=fun e=>of_decide_eq_false a ((Qaq c _ _).2 e)
  have b:¬_:=fun e=>of_decide_eq_false b ((Qaq c _ _).2 e)
  omega
theorem Qu0{c:List Int}{x y:Int}(h1:¬cfM c x y<0)(h2:¬cfM c y x<0):x=y:=by
 simp only[cfM]at *
 split at h1 <;> split at h2 <;> omega
def srtM(c l:List Int):List Int:=l.mergeSort fun x y=>!decide (cfM c y x<0)
theorem QaK(c l:List Int):(srtM c l).length=l.length:=Xcp l
theorem Qlv{c l:List Int}{x:Int}:x∈srtM c l↔x∈l:=(Xbz l _).mem_iff
theorem Qlt{p:Int->Prop}:∀(l:List Int),(∀x∈l,p x)->∃d:List { x:Int // p x },d.map Subtype.val=l
 | [],_=>⟨[],rfl⟩
 | x::l,h=>by
  obtain⟨d,hd⟩:=Qlt l fun y hy=>h y (Xad _ hy)
  exact⟨⟨x,h x Xaa⟩::d,by rw[Xas,hd]⟩
theorem Qig{p:Int->Prop}[Inhabited { x:Int // p x }](d:List { x:Int // p x })(cur:Array Value):putCells (fun x:{ x:Int // p x }=>Value.int .i64 x.1) 0 d.toArray cur=putCells (Value.int .i64) 0 (d.map Subtype.val).toArray cur:=by
 unfold putCells
 congr 1
 funext k x
 simp only[XbG,Xar]
 by_cases a:0<=k/\k<0+d.length
 ·have b:k<d.length:=by omega
  rw[if_pos a,if_pos a]
  simp[b]
 ·rw[if_neg a,if_neg a]
theorem Qfz{p:Int->Prop}[Inhabited { x:Int // p x }](w:World)(g:Nat)(d:List { x:Int // p x }):putRow (fun x:{ x:Int // p x }=>Value.int .i64 x.1) w g 0 d.toArray=putRow (Value.int .i64) w g 0 (d.map Subtype.val).toArray:=by
 unfold putRow
 congr 1
 funext cur
 exact Qig d cur
theorem QiM{w w':World}{g:Nat}(h:w.grownBy w' (some g)){b:Nat}(hb:b<w.heap.size)(hg:g≠b)(o:Nat):w'.cell? ⟨b,o,none⟩=w.cell? ⟨b,o,none⟩:=Same.cell (h.block b hb fun e=>hg (Option.some.inj e).symm) o
theorem Qwj{c l:List Int}{dd:Bool}(h0:0<l.length)(hl:∀x∈l,0<=x/\x<(c.length:Int))(hc:c.length<=1000000)(hb:∀j,j<c.length->-1000000<=nth c j/\nth c j<=1000000)(hll:l.length<=1000000) :
  MCalls Tryz.prog 300 [.row 1000000,.clo 301 [.pd [.sl (intE c)] 0]] [(1000000,.row 3 (intE l) dd)] (fun _:Unit=>True) (fun _=>[]) (fun _=>[(1000000,.row 3 (intE (srtM c l)) dd)]) (fun _=>[]):=by
 refine Qd6 (z:=1) ti3.sized (QV fun _=>rfl) (QV fun _=>rfl) (JT (f:=fun(x:Int)=>[D.n .i64 x]) (fun _=>rfl) (QaK c l)) (fun us w'=>Go.MuLone.run_callFunc_enter Tryz.func300 rfl rfl us w') ?_
 intro w v us bb en S ho hr an hS
 rw[Vq hr,Qc]at ho
 rw[Qc]
 obtain⟨fv,au,rfl,hf,h3⟩:=an
 have ah:au=[]:=h3
 subst ah
 obtain⟨a1,rfl,ak⟩:=hf
 obtain⟨pv,av,rfl,hp,h4⟩:=ak
 have ai:av=[]:=h4
 subst ai
 obtain⟨pb,po,ws,F,rfl,ac,i,ab,hF⟩:=hp
 obtain⟨u,bc,F1,F2,rfl,rfl,hu,h5⟩:=ac
 obtain⟨x0,l',rfl⟩:∃x l',l=x::l':=by
  cases l with
  | nil=>simp at h0
  | cons x l'=>exact⟨x,l',rfl⟩
 have aq:=hl x0 Xaa
 obtain⟨A,ad,z,ms,F',rfl,m1,m2,m3,m4,m5,m6⟩:=hu
 rcases m6 with ⟨m6,_⟩|⟨m6,mb,mo,rfl,m7,rfl,m8⟩
 ·have:c.length=0:=by rw[<-Qc c,m6];rfl
  omega
 rcases ho.2 with ⟨hv,hn⟩|⟨g,cap,cur,hv,hbg,hg,hnc,hcm,hcs,htake⟩
 ·simp at hn
 subst hv
 rw[Nat.mul_one]at htake
 have al:=(Array.getElem?_eq_some_iff.1 hg).1
 have k:∀b,S b->b<w.heap.size/\g≠b:=fun b hb=>⟨(hS b hb).1,fun e=>(hS b hb).2 (by rw[e];rfl)⟩
 have am:=Vq m5
 obtain⟨d,hd⟩:=Qlt (p:=fun x=>0<=x/\x<(c.length:Int)) (x0::l') hl
 haveI:Inhabited { x:Int // 0<=x/\x<(c.length:Int) }:=⟨⟨x0,aq⟩⟩
 have r:d.toArray.size=(x0::l').length:=by rw[<-hd,XbG,Xar]
 have aj:=holds_of_blockI hg htake
 have hH:Holds (fun x:{ x:Int // 0<=x/\x<(c.length:Int) }=>Value.int .i64 x.1) w g 0 d.toArray:=by
  intro j o
  have t:j<d.length:=by simpa using o
  have:=aj j (by rw[<-hd];simpa using t)
  refine⟨this.1.trans ?_,this.2⟩
  simp only[<-hd]
  simp[t]
 have q:CmpReads Tryz.prog 301 #[.pointer (some ⟨pb,po+0,none⟩)] (fun x:{ x:Int // 0<=x/\x<(c.length:Int) }=>Value.int .i64 x.1) (fun x y=>cfM c x.1 y.1) g 0 d.toArray.size w:=by
  intro m os dk _ x y
  have s:w.grownBy (sortWorld (fun x:{ x:Int // 0<=x/\x<(c.length:Int) }=>Value.int .i64 x.1) w g 0 m dk os) (some g):=by
   unfold sortWorld
   rw[<-Array.toArray_toList (xs:=dk),Qfz]
   exact grownBy_sortedI _
  refine QgW (c:=c) (mb:=mb) (mo:=mo) (n:=(intE c).length) (cap:=ad) ?_ (Qc c) ?_ ?_ ?_ ?_ ?_
  ·rw[QiM s (k pb ab).1 (k pb ab).2]
   exact i 0 _ rfl
  ·intro j o
   rw[Qc]at o
   have aa:=k mb (hF mb (by simp))
   rw[QiM s aa.1 aa.2]
   refine m8 j _ ?_
   rw[am]
   simp[nth,o]
  ·intro j o;exact hb j (by rwa [Qc]at o)
  ·have:=x.2;rw[Qc];exact this
  ·have:=y.2;rw[Qc];exact this
  ·rw[Qc];exact hc
 have h:=Any.slices_SortFunc_total Tryz.sortF (fun x:{ x:Int // 0<=x/\x<(c.length:Int) }=>Value.int .i64 x.1) (fun _=>rfl) (fun x y=>cfM c x.1 y.1) (QwE c _) 301 #[.pointer (some ⟨pb,po+0,none⟩)] g 0 cap d.toArray w
  (fun args w'=>Go.MuLone.run_callFunc_enter Tryz.func301 rfl rfl args w') q.lays hH al (by rw[r];omega)
  (fun x y h1 h2=>Subtype.ext (Qu0 (of_decide_eq_false h1) (of_decide_eq_false h2)))
 rw[r]at h
 change Calls Tryz.prog 300 _ _ _ at h
 have ao:(d.mergeSort fun x y=>!(ltOf fun x y:{ x:Int // 0<=x/\x<(c.length:Int) }=>cfM c x.1 y.1) y x).map Subtype.val=srtM c (x0::l'):=by
  unfold srtM
  rw[<-hd]
  exact List.map_mergeSort fun a _ b _=>rfl
 refine h.mono fun e w' ⟨he,n,os,hw⟩=>?_
 have ap:w'=grow (putRow (Value.int .i64) (Sort.ahead w n) g 0 (srtM c (x0::l')).toArray) os:=by
  rw[hw,<-ao]
  unfold sortWorld
  rw[Qfz]
 subst ap
 exact⟨he,grownBy_sortedI _,(srtM c (x0::l')).map (Value.int .i64),ownsRow_sortedI (QaK c _) (Xae _) hg hnc hcm hcs,Qel _ _⟩
end Go.Proofs.YtkdniahincpmaaaGreat
namespace Go.Proofs.YtkdniahincpmaaaGreat
open Go Go.RowKit Tryz
section
attribute [local irreducible] AWp QM OpOk ACalls ChA QsOk MCalls EnC PY

def cntC(t:QX)(m:List Int):List Int:=(List.range t.parents.length).map fun(s:Nat)=>((m.filter fun x=>decide (Jc t x=s)).length:Int)
theorem Qc9(t:QX)(m:List Int):(cntC t m).length=t.parents.length:=by simp[cntC]
theorem Qc5{t:QX}{m:List Int}{s:Nat}(h:s<t.parents.length):nth (cntC t m) s=((m.filter fun x=>decide (Jc t x=s)).length:Int):=by
 rw[nth,List.getD_eq_getElem?_getD,List.getElem?_eq_getElem (by rw[Qc9];exact h)]
 simp[cntC]
theorem QsC(t:QX):cntC t []=List.replicate t.parents.length 0:=by
 refine List.ext_getElem (by simp[cntC]) fun i h1 h2=>?_
 simp[cntC]
theorem Qrx{t:QX}{m:List Int}{i:Nat}(h:i<m.length)(hl:Jc t (nth m i)<t.parents.length):cntC t (m.take (i+1))=(cntC t (m.take i)).set (Jc t (nth m i)) (nth (cntC t (m.take i)) (Jc t (nth m i))+1):=by
 have e:nth m i=m[i]:=by simp[nth,h]
 refine List.ext_getElem (by simp[cntC]) fun s h1 h2=>?_
 have hs:s<t.parents.length:=by simpa [cntC] using h1
 rw[List.getElem_set]
 by_cases a:Jc t (nth m i)=s
 ·rw[if_pos a,Qc5 hl,a]
  simp only[cntC,Xcg,List.getElem_range]
  rw[XaA h,Xa5,<-e]
  simp[a]
 ·rw[if_neg a]
  simp only[cntC,Xcg,List.getElem_range]
  rw[XaA h,Xa5,<-e]
  simp[a]
def lvS(o:List Int)(s:Int):List Int:=if hasI o s=true then o else o++[s]
def lvL(t:QX)(m:List Int):List Int:=m.foldl (fun o x=>lvS o (Jc t x)) []
theorem QsB{t:QX}{m:List Int}{i:Nat}(h:i<m.length):lvL t (m.take (i+1))=lvS (lvL t (m.take i)) (Jc t (nth m i)):=by
 have e:nth m i=m[i]:=by simp[nth,h]
 rw[XaA h,lvL,XaN,e]
 rfl
theorem Qoj{t:QX}{x:Int}:∀(m o:List Int),x∈m.foldl (fun o x=>lvS o (Jc t x)) o↔x∈o\/∃y∈m,(Jc t y:Int)=x
 | [],o=>by simp
 | y::m,o=>by
  rw[Xa4,Qoj m]
  unfold lvS
  split
  ·rename_i h
   have h:=WR.1 h
   constructor
   ·rintro (h|⟨z,hz,e⟩)
    ·exact .inl h
    ·exact .inr ⟨z,Xad _ hz,e⟩
   ·rintro (h|⟨z,hz,e⟩)
    ·exact .inl h
    ·rcases Xai.1 hz with rfl|hz
     ·exact .inl (e▸h)
     ·exact .inr ⟨z,hz,e⟩
  ·rw[Xag,XaH]
   constructor
   ·rintro ((h|h)|⟨z,hz,e⟩)
    ·exact .inl h
    ·exact .inr ⟨y,Xaa,h.symm⟩
    ·exact .inr ⟨z,Xad _ hz,e⟩
   ·rintro (h|⟨z,hz,e⟩)
    ·exact .inl (.inl h)
    ·rcases Xai.1 hz with rfl|hz
     ·exact .inl (.inr e.symm)
     ·exact .inr ⟨z,hz,e⟩
theorem QkY{t:QX}{m:List Int}{x:Int}:x∈lvL t m↔∃y∈m,(Jc t y:Int)=x:=by
 rw[lvL,Qoj];simp
theorem Quz{t:QX}:∀(m o:List Int),o.Nodup->(m.foldl (fun o x=>lvS o (Jc t x)) o).Nodup
 | [],_,h=>h
 | y::m,o,h=>by
  rw[Xa4]
  refine Quz m _ ?_
  unfold lvS
  split
  ·exact h
  ·rename_i hn
   rw[Xbg]
   refine⟨h,by simp,fun a ha b hb=>?_⟩
   rw[XaH]at hb
   intro e
   exact hn (WR.2 (by rw[<-hb,<-e];exact ha))
theorem QxO{t:QX}{m:List Int}:(lvL t m).Nodup:=Quz m [] List.nodup_nil
theorem Qp7{t:QX}:∀(m o:List Int),(m.foldl (fun o x=>lvS o (Jc t x)) o).length<=o.length+m.length
 | [],o=>by simp
 | y::m,o=>by
  rw[Xa4]
  have h:=Qp7 (t:=t) m (lvS o (Jc t y))
  have:(lvS o (Jc t y)).length<=o.length+1:=by unfold lvS;split <;> simp
  simp only[Xap]
  omega
theorem Qwg{t:QX}{m:List Int}:(lvL t m).length<=m.length:=by have:=Qp7 (t:=t) m [];simpa [lvL] using this
def inS(t:QX)(n lf:Int)(o:List Int)(x:Int):List Int:=if(Jc t x:Int)=lf/\(o.length:Int)<n then o++[x]else o
def inL(t:QX)(n:Int)(m:List Int)(o:List Int)(lf:Int):List Int:=m.foldl (inS t n lf) o
def outL(t:QX)(n:Int)(m:List Int)(L:List Int):List Int:=L.foldl (inL t n m) []
theorem QtV{t:QX}{n lf:Int}{m o:List Int}{i:Nat}(h:i<m.length):inL t n (m.take (i+1)) o lf=inS t n lf (inL t n (m.take i) o lf) (nth m i):=by
 have e:nth m i=m[i]:=by simp[nth,h]
 rw[XaA h,inL,XaN,e]
 rfl
theorem QiE{t:QX}{n:Int}{m L:List Int}{i:Nat}(h:i<L.length):outL t n m (L.take (i+1))=inL t n m (outL t n m (L.take i)) (nth L i):=by
 have e:nth L i=L[i]:=by simp[nth,h]
 rw[XaA h,outL,XaN,e]
 rfl
theorem QlR{t:QX}{n lf:Int}:∀(m o:List Int),(o.length:Int)<=n->inL t n m o lf=(o++m.filter fun x=>decide ((Jc t x:Int)=lf)).take n.toNat
 | [],o,h=>by rw[List.filter_nil,Xa3,Xay (by omega)];rfl
 | x::m,o,h=>by
  show inL t n m (inS t n lf o x) lf=_
  unfold inS
  by_cases h1:(Jc t x:Int)=lf
  ·rw[List.filter_cons_of_pos (by simpa using h1)]
   by_cases h2:(o.length:Int)<n
   ·rw[if_pos ⟨h1,h2⟩,QlR m _ (by simp;omega),Xao]
    rfl
   ·rw[if_neg (fun e=>h2 e.2),QlR m _ h]
    have e:n.toNat=o.length:=by omega
    rw[e]
    simp
  ·rw[if_neg (fun e=>h1 e.1),QlR m _ h,List.filter_cons_of_neg (by simpa using h1)]
def flM(t:QX)(m:List Int)(L:List Int):List Int:=L.flatMap fun lf=>m.filter fun x=>decide ((Jc t x:Int)=lf)
theorem QgZ{t:QX}{n:Int}{m:List Int}(hn:0<=n)(L:List Int):∀(i:Nat),i<=L.length->outL t n m (L.take i)=(flM t m (L.take i)).take n.toNat
 | 0,_=>by simp[outL,flM]
 | i+1,h=>by
  rw[QiE (by omega),QgZ hn L i (by omega),QlR _ _ (by rw[Xah];omega)]
  have e:nth L i=L[i]:=by simp[nth,show i<L.length by omega]
  rw[XaA (by omega),flM,flM,XbW,e]
  generalize List.flatMap _ (List.take i L)=a
  simp only[Xbq,List.flatMap_nil,Xa3]
  rw[List.take_append,List.take_append,XcD,Nat.min_self,Xah]
  congr 2
  omega

def lowS(t:QX)(b:Int):Int:=if b<0 then 0 else lvl t.parents b.toNat
def fewS(t:QX)(l:List Int)(b:Int):Nat:=if b<0 then 0 else cntU t l b.toNat
def choE(t:QX)(m:List Int)(n:Int):List Int:=srtI (outL t n m (srtM (cntC t m) (lvL t m)))
@[reducible] def optR (o:Option (List Int)):List AV:=match o with
 | none=>[zL [],.d (.b false)]
 | some _=>[.row 0,.d (.b true)]
@[reducible] def optB (o:Option (List Int)):List (Nat×AO):=match o with
 | none=>[]
 | some l=>[(0,.row 3 (intE l) true)]
abbrev OR(f:FuncId)(args:List AV)(o:Option (List Int)):Prop:=MCalls Tryz.prog f args [] (fun _:Unit=>True) (fun _=>optR o) (fun _=>[]) (fun _=>optB o)
theorem QtB{t:QX}{l:List Int}{n most:Int}(ht:Q3 t)(hl:Jo t l)(hn:1<=n)(hll:l.length<=100000):OR 264 [YW t,zL (intE l),zI n,zI most] (if swI t l n most<0 then none else some (choE t (Ju t l (swI t l n most)) n)):=by
  refine zMC func264 fun w0 Z O=>?_
  have bk:=ht.len
  have bl:=ht.nlen
  have bg:=Qc l
  repeat'(first|(refine zhm fun hb=>?_;try exact zab)|refine zUtp ?_|refine zg2 ?_ ?_|intro _)
  refine Qa (fun(i:Nat)=>⟨146,[(1,zL (intE l)),(2,zI n),(3,zI most),(4,.ptr 4 0),(10,zI (swU t l n most i)),(11,zI (lowS t (swU t l n most i))),(12,zI (fewS t l (swU t l n most i):Nat)),(28,zI (t.parents.length:Nat)),(29,zI i)],[(4,.box 26 (WH t))]⟩) (fun i=>i<=t.parents.length) (fun i=>t.parents.length-i) 0 (by exact Xae _) ?_ ?_
  · exact zll
  intro k be
  by_cases aw:k<t.parents.length
  · have hb:=QfC (t:=t) (l:=l) (n:=n) (most:=most) k
    have b:=QrC (t:=t) (l:=l) (n:=n) (most:=most) (i:=k)
    unfold swS at b
    have bm:=Yr (t:=t) (l:=l) (s:=(k:Int))
    have bb:(Ju t l (k:Int)).length=cntU t l k:=rfl
    have c1:=Qp2 (t:=t) (l:=l) (s:=(k:Int)) ht hl (by omega)
    have c2:=QgX ht aw
    have ae:¬((k:Nat):Int)<0:=by omega
    have ac:lowS t ((k:Nat):Int)=lvl t.parents k:=if_neg ae
    have z:fewS t l ((k:Nat):Int)=cntU t l k:=if_neg ae
    by_cases f:swU t l n most k<0
    · repeat'(first|(refine zhm fun hb=>?_;try exact zab)|refine zUtp ?_|refine zg2 ?_ ?_|refine kmu c1 ?_|intro _)
      all_goals
        refine⟨k+1,by omega,by omega,?_⟩
        refine⟨rfl,?_,?_,rfl⟩
        repeat'(first|exact ze3|refine ze2 ?_ ?_|refine ze4 ?_|exact ze5|fail)
        all_goals exact zp (by first|rfl|(rw[b,if_pos ⟨by omega,by omega,.inl (by omega)⟩];first|rfl|rw[ac]|rw[z])|(rw[b,if_neg (fun h=>by omega)]))
    · have bf:lowS t (swU t l n most k)=lvl t.parents (swU t l n most k).toNat:=if_neg f
      have bd:fewS t l (swU t l n most k)=cntU t l (swU t l n most k).toNat:=if_neg f
      repeat'(first|(refine zhm fun hb=>?_;try exact zab)|refine zUtp ?_|refine zg2 ?_ ?_|refine kmu c1 ?_|intro _)
      all_goals
        refine⟨k+1,by omega,by omega,?_⟩
        refine⟨rfl,?_,?_,rfl⟩
        repeat'(first|exact ze3|refine ze2 ?_ ?_|refine ze4 ?_|exact ze5|fail)
        all_goals exact zp (by first|rfl|(rw[b,if_pos ⟨by omega,by omega,.inr (.inl (by omega))⟩];first|rfl|rw[ac]|rw[z])|(rw[b,if_pos ⟨by omega,by omega,.inr (.inr ⟨by omega,by omega⟩)⟩];first|rfl|rw[ac]|rw[z])|(rw[b,if_neg (fun h=>by omega)]))
  obtain rfl:k=t.parents.length:=by omega
  have aa:=QfC (t:=t) (l:=l) (n:=n) (most:=most) t.parents.length
  have aj:=Qi5 (t:=t) (l:=l) (n:=n) (most:=most) t.parents.length
  rw[show swU t l n most t.parents.length=swI t l n most from rfl]at aa aj ⊢
  by_cases f:swI t l n most<0
  · rw[if_pos f]
    repeat'(first|(refine zhm fun hb=>?_;try exact zab)|refine zUrp ?_|refine zg2 ?_ ?_|intro _)
    exact zDR
  rw[if_neg f]
  have az:((swI t l n most).toNat:Int)=swI t l n most:=by omega
  have w:=aj (by omega)
  unfold cntU at w
  rw[az]at w
  have c3:=Qp2 (t:=t) (l:=l) (s:=swI t l n most) ht hl (by omega)
  have ay:=Yr (t:=t) (l:=l) (s:=swI t l n most)
  have g:=Vl (s:=swI t l n most) hl
  generalize Ju t l (swI t l n most)=m at w c3 ay g ⊢
  have ah:=V7 ht g
  have a5:=Qc m
  repeat'(first|(refine zhm fun hb=>?_;try exact zab)|refine zUtp ?_|refine zg2 ?_ ?_|refine kmu c3 ?_|intro _)
  refine Qa (fun(i:Nat)=>⟨146,[(1,zL (intE m)),(2,zI n),(4,.ptr 4 0),(16,.ptr 16 0),(17,.row 79),(80,zL (intE m)),(81,zI (m.length:Nat)),(82,zI i)],[(4,.box 26 (WH t)),(16,.box 23 [.row 78]),(78,.row 3 (intE (cntC t (m.take i))) true),(79,.row 3 (intE (lvL t (m.take i))) true)]⟩) (fun i=>i<=m.length) (fun i=>m.length-i) 0 (by exact Xae _) ?_ ?_
  · refine⟨rfl,?_,?_,rfl⟩
    repeat'(first|exact ze3|refine ze2 ?_ ?_|refine ze4 ?_|exact ze5|fail)
    all_goals exact zp (by first|rfl|exact Qc _|(rw[List.take_zero,QsC];simp[intE]))
  intro k hk
  have af:=Qwg (t:=t) (m:=m.take k)
  rw[Xah]at af
  by_cases p:k<m.length
  · have aa:=g k p
    obtain⟨u,a7⟩:=ah _ (QE p)
    obtain⟨_,r⟩:=ht.leaf g p
    have b:=Qrx (t:=t) p u
    have a:=QsB (t:=t) p
    have av:=Qc9 t (m.take k)
    have v:=Qc5 (t:=t) (m:=m.take k) u
    have a4:((m.take k).filter fun x=>decide (Jc t x=Jc t (nth m k))).length<=k:=Xam (Xa2 _ _) (by rw[Xah];omega)
    have c4:=Vt (l:=lvL t (m.take k)) (x:=(Jc t (nth m k):Int)) (by omega)
    have ai:nth m k=((nth m k).toNat:Int):=by omega
    have ba:0<=nth (cntC t (m.take k)) (nth t.nodes (nth m k).toNat).leaf.toNat/\nth (cntC t (m.take k)) (nth t.nodes (nth m k).toNat).leaf.toNat<=k:=by
      show 0<=nth (cntC t (m.take k)) (Jc t (nth m k))/\_<=_
      rw[v]
      show _/\nth (cntC t (m.take k)) (Jc t (nth m k))<=_
      rw[v]
      omega
    obtain⟨h1,_,_⟩:=ht.nodes (nth m k).toNat (by omega)
    unfold lvS at a
    have bc:(intE (cntC t (m.take k))).length=t.parents.length:=by rw[Qc,Qc9]
    cases hh:hasI (lvL t (m.take k)) (Jc t (nth m k)) with
    | true=>
      rw[hh]at c4
      rw[if_pos hh]at a
      rw[<-r]at c4
      repeat'(first|(refine zhm fun hb=>?_;try exact zab)|refine zUtn ?_|refine zg2 ?_ ?_|intro _)
      refine⟨k+1,by omega,by omega,?_⟩
      refine⟨rfl,?_,?_,rfl⟩
      repeat'(first|exact ze3|refine ze2 ?_ ?_|refine ze4 ?_|exact ze5|fail)
      all_goals exact zp (by first|rfl|rw[a]|(rw[b];exact(Qhi _ _ _)))
    | false=>
      rw[hh]at c4
      rw[if_neg (by rw[hh];simp)]at a
      rw[<-r]at c4
      repeat'(first|(refine zhm fun hb=>?_;try exact zab)|refine zUtn ?_|refine zg2 ?_ ?_|intro _)
      refine⟨k+1,by omega,by omega,?_⟩
      refine⟨rfl,?_,?_,rfl⟩
      repeat'(first|exact ze3|refine ze2 ?_ ?_|refine ze4 ?_|exact ze5|fail)
      all_goals exact zp (by first|rfl|(rw[a,r];exact JG _ _)|(rw[b];exact(Qhi _ _ _)))
  obtain rfl:k=m.length:=by omega
  rw[Xal]at *
  have av:=Qc9 t m
  have au:∀j,j<(cntC t m).length->-1000000<=nth (cntC t m) j/\nth (cntC t m) j<=1000000:=fun j hj=>by
    rw[Qc5 (by omega)]
    have:=Xa2 (fun x=>decide (Jc t x=j)) m
    omega
  have ag:∀x∈lvL t m,0<=x/\x<((cntC t m).length:Int):=fun x hx=>by
    obtain⟨y,hy,rfl⟩:=QkY.1 hx
    have:=(ah y hy).1
    omega
  have ak:0<(lvL t m).length:=by
    refine Xbd.2 fun e=>?_
    have h1:(Jc t (nth m 0):Int)∈lvL t m:=QkY.2 ⟨_,QE (by omega),rfl⟩
    rw[e]at h1
    cases h1
  have c5:=Qwj (c:=cntC t m) (l:=lvL t m) (dd:=true) ak ag (by omega) au (by omega)
  unfold choE
  have a0:=QaK (cntC t m) (lvL t m)
  have al:∀j,j<(srtM (cntC t m) (lvL t m)).length->0<=nth (srtM (cntC t m) (lvL t m)) j/\nth (srtM (cntC t m) (lvL t m)) j<1000000:=fun j hj=>by
    have:=ag _ (Qlv.1 (QE hj))
    omega
  generalize srtM (cntC t m) (lvL t m)=L at c5 a0 al ⊢
  generalize lvL t m=lv at *
  generalize cntC t m=cc at *
  have a6:=Qc L
  repeat'(first|(refine zhm fun hb=>?_;try exact zab)|(refine Qi 24 78 rfl ?_)|(refine Wr 24 16 rfl rfl ?_)|(refine Qi 26 79 rfl ?_)|refine zUtp ?_|refine zg2 ?_ ?_|(refine km [79] (c5) rfl rfl (fun i hi=>?_);try dsimp only at hi)|intro _)
  refine Qa (fun(i:Nat)=>⟨146,[(1,zL (intE m)),(2,zI n),(4,.ptr 4 0),(21,.row 110),(111,zL (intE L)),(112,zI (L.length:Nat)),(113,zI i)],[(4,.box 26 (WH t)),(110,.row 3 (intE (outL t n m (L.take i))) true)]⟩) (fun i=>i<=L.length) (fun i=>L.length-i) 0 (by exact Xae _) ?_ ?_
  · exact zll
  intro i hi
  by_cases ad:i<L.length
  · have b:=QiE (t:=t) (n:=n) (m:=m) ad
    have am:=al i ad
    generalize u:nth L i=lf at b am
    generalize outL t n m (L.take i)=o at b ⊢
    repeat'(first|(refine zhm fun hb=>?_;try exact zab)|refine zUtp ?_|refine zg2 ?_ ?_|intro _)
    refine Qa (fun(j:Nat)=>⟨146,[(1,zL (intE m)),(2,zI n),(4,.ptr 4 0),(21,.row 110),(23,zI lf),(111,zL (intE L)),(112,zI (L.length:Nat)),(113,zI i),(117,zL (intE m)),(118,zI (m.length:Nat)),(119,zI j)],[(4,.box 26 (WH t)),(110,.row 3 (intE (inL t n (m.take j) o lf)) true)]⟩) (fun j=>j<=m.length) (fun j=>m.length-j) 0 (by exact Xae _) ?_ ?_
    · refine⟨rfl,?_,?_,rfl⟩
      repeat'(first|exact ze3|refine ze2 ?_ ?_|refine ze4 ?_|exact ze5|fail)
      all_goals exact zp (by first|rfl|exact Qc _|rw[<-u])
    intro j hj
    by_cases ab:j<m.length
    · have aa:=g j ab
      obtain⟨h1,_,_⟩:=ht.nodes (nth m j).toNat (by omega)
      obtain⟨_,r⟩:=ht.leaf g ab
      have ai:nth m j=((nth m j).toNat:Int):=by omega
      have a:=QtV (t:=t) (n:=n) (lf:=lf) (o:=o) ab
      unfold inS at a
      rw[<-r]at a
      generalize inL t n (m.take j) o lf=q at a ⊢
      by_cases hq:(nth t.nodes (nth m j).toNat).leaf=lf/\(q.length:Int)<n
      · rw[if_pos hq]at a
        obtain⟨bi,bj⟩:=hq
        repeat'(first|(refine zhm fun hb=>?_;try exact zab)|refine zUtp ?_|refine zg2 ?_ ?_|intro _)
        refine⟨j+1,by omega,by omega,?_⟩
        refine zag ?_;exact zp (by(rw[a];exact JG _ _))
      · rw[if_neg hq]at a
        repeat'(first|(refine zhm fun hb=>?_;try exact zab)|refine zUtp ?_|refine zg2 ?_ ?_|intro _)
        all_goals first
          | exact absurd ⟨by omega,by omega⟩ hq
          | (refine⟨j+1,by omega,by omega,?_⟩
             refine⟨rfl,?_,?_,rfl⟩
             repeat'(first|exact ze3|refine ze2 ?_ ?_|refine ze4 ?_|exact ze5|fail)
             all_goals exact zp (by first|rfl|rw[a]))
    · obtain rfl:j=m.length:=by omega
      rw[Xal]at *
      repeat'(first|(refine zhm fun hb=>?_;try exact zab)|refine zUtp ?_|refine zg2 ?_ ?_|intro _)
      refine⟨i+1,by omega,by omega,?_⟩
      refine zag ?_;exact zp (by rw[b])
  · obtain rfl:i=L.length:=by omega
    rw[Xal]at *
    have bh:(outL t n m L).length<=1000000:=by
      have h:=QgZ (t:=t) (m:=m) (n:=n) (by omega) L L.length (Xaj _)
      rw[Xal]at h
      rw[h,Xah]
      omega
    have c6:=Qqj (l:=outL t n m L) (d:=true) (by omega)
    have a8:=Yj (outL t n m L)
    repeat'(first|(refine zhm fun hb=>?_;try exact zab)|refine zUrp ?_|refine zg2 ?_ ?_|(refine km [110] (c6) rfl rfl (fun i hi=>?_);try dsimp only at hi)|intro _)
    show AWp _ _ _ _
    refine QA ?_
    apply Qs
    exact zm () [110] trivial zae zae zae
end
end Go.Proofs.YtkdniahincpmaaaGreat
namespace Go.Proofs.YtkdniahincpmaaaGreat
open Go Go.RowKit Go.Sort

theorem Qfg(n:Int):∀(l:List Int),(rise n l).Perm (n::l)
 | []=>Xby _
 | x::l=>by
  unfold rise
  split
  ·exact Xby _
  ·exact((Qfg n l).cons x).trans (List.Perm.swap n x l)
theorem Qj5(n:Int):∀(l:List Int),l.Pairwise (·<=·)->(rise n l).Pairwise (·<=·)
 | [],_=>by simp[rise]
 | x::l,h=>by
  unfold rise
  have h':=Xau.1 h
  split
  ·rename_i hn
   refine Xau.2 ⟨fun y hy=>?_,h⟩
   rcases Xai.1 hy with rfl|hy
   ·omega
   ·have:=h'.1 y hy;omega
  ·rename_i hn
   refine Xau.2 ⟨fun y hy=>?_,Qj5 n l h'.2⟩
   rcases Xai.1 ((Qfg n l).mem_iff.1 hy)with rfl|hy
   ·omega
   ·exact h'.1 y hy
def insF(q:List Int):List Int:=q.foldl (fun o x=>rise x o) []
theorem Qrt:∀(q o:List Int),o.Pairwise (·<=·)->(q.foldl (fun o x=>rise x o) o).Pairwise (·<=·)/\(q.foldl (fun o x=>rise x o) o).Perm (o++q)
 | [],o,h=>⟨h,by rw[Xa3];exact Xby _⟩
 | x::q,o,h=>by
  obtain⟨h1,h2⟩:=Qrt q (rise x o) (Qj5 x o h)
  refine⟨h1,h2.trans ?_⟩
  exact(((Qfg x o).append_right q).trans (Xcu (l₁:=o) (l₂:=q) (a:=x)).symm)
theorem Qk4(q:List Int):insF q=srtI q:=by
 obtain⟨c,d⟩:=Qrt q [] List.Pairwise.nil
 refine List.Perm.eq_of_pairwise (le:=(·<=·)) (fun a b _ _ c d=>by omega) c (Qkn q) (d.trans ?_)
 rw[Xba]
 exact(Xbz q _).symm
theorem Qlu(q:List Int):(insF q).length=q.length:=by rw[Qk4,Yj]
theorem QrO(q:List Int)(x:Int):insF (q++[x])=rise x (insF q):=by unfold insF;rw[XaN];rfl
theorem QeG{n:Int}:∀(g q:List Int),(q.length:Int)<=n->WB n (insF q) g=insF ((q++g).take n.toNat)
 | [],q,h=>by
  rw[Xa3,Xay (by omega)]
  rfl
 | x::g,q,h=>by
  have e:WB n (insF q) (x::g)=WB n (if((insF q).length:Int)<n then rise x (insF q)else insF q) g:=rfl
  rw[e,Qlu]
  by_cases hq:(q.length:Int)<n
  ·rw[if_pos hq,<-QrO,QeG g _ (by simp;omega),Xao]
   rfl
  ·rw[if_neg hq,QeG g q h]
   have e:n.toNat=q.length:=by omega
   rw[e]
   simp
theorem Qme{t:QX}{m tk:List Int}:∀(i s:Nat),s<i->cand t m tk s->cntU t m s<cntU t m (lfU t m tk i).toNat\/cntU t m s=cntU t m (lfU t m tk i).toNat/\lfU t m tk i<=s
 | 0,_,h,_=>absurd h (Xaq _)
 | i+1,s,h,hc=>by
  have h1:=(Qo0 (t:=t) (m:=m) (tk:=tk) i).2
  have h2:=(Qmu (t:=t) (l:=m) (tk:=tk) i).2
  rw[Qti]
  unfold lfS
  by_cases hs:s=i
  ·subst hs
   split
   ·exact .inr ⟨by simp,by simp⟩
   ·rename_i hn
    by_cases hb:lfU t m tk s<0
    ·exact absurd ⟨hc.1,hc.2.1,hc.2.2,.inl hb⟩ hn
    ·by_cases hb2:cntU t m (lfU t m tk s).toNat<cntU t m s
     ·exact absurd ⟨hc.1,hc.2.1,hc.2.2,.inr hb2⟩ hn
     ·omega
  ·have ih:=Qme i s (by omega) hc
   have h0:=h1 s (by omega) hc
   split
   ·rename_i hn
    have e:((i:Nat):Int).toNat=i:=by simp
    rw[e]
    omega
   ·exact ih
theorem Qjk{t:QX}(ht:Q3 t){m:List Int}(hm:∀x∈m,Jc t x<t.parents.length){s:Nat}(hs:Wx t.parents (s:Int)=true)(hl:s<t.parents.length):(cntU t m s:Int)=nth (cntC t m) s:=by
 rw[Qc5 hl]
 unfold cntU
 rw[WQ ht hm hs]
def ordM(t:QX)(m:List Int):List Int:=srtM (cntC t m) (lvL t m)
theorem Qdc{t:QX}{m:List Int}{x:Int}:x∈ordM t m↔∃y∈m,(Jc t y:Int)=x:=by rw[ordM,Qlv,QkY]
theorem Qvj{t:QX}{m:List Int}:(ordM t m).Nodup:=((Xbz _ _).nodup_iff).2 QxO
theorem Qwo{t:QX}{m:List Int}:(ordM t m).Pairwise fun x y=>¬cfM (cntC t m) y x<0:=by
 have h:=Xck (le:=fun x y=>!decide (cfM (cntC t m) y x<0)) (fun a b c d e=>?_) (fun a b=>?_) (lvL t m)
 ·exact h.imp fun h=>by simpa using h
 ·have d:¬cfM (cntC t m) b a<0:=by simpa using d
  have e:¬cfM (cntC t m) c b<0:=by simpa using e
  have:¬cfM (cntC t m) c a<0:=by rw[Qaq]at *;omega
  simpa using this
 ·by_cases h:cfM (cntC t m) b a<0
  ·have:¬cfM (cntC t m) a b<0:=by rw[Qaq]at *;omega
   simp[this]
  ·simp[h]
theorem QwK{t:QX}(ht:Q3 t){m:List Int}(hm:∀x∈m,Jc t x<t.parents.length/\Wx t.parents (Jc t x:Int)=true){i:Nat}(hi:i<(ordM t m).length):lfI t m ((ordM t m).take i)=nth (ordM t m) i:=by
 have a:∀x∈m,Jc t x<t.parents.length:=fun x hx=>(hm x hx).1
 have q:nth (ordM t m) i∈ordM t m:=QE hi
 have c:nth (ordM t m) i=(ordM t m)[i]:=by simp[nth,hi]
 obtain⟨y,hy,v⟩:=Qdc.1 q
 obtain⟨g,h⟩:=hm y hy
 have l:hasI ((ordM t m).take i) (nth (ordM t m) i)=false:=by
  cases hh:hasI ((ordM t m).take i) (nth (ordM t m) i) with
  | false=>rfl
  | true=>
   obtain⟨j,r,e⟩:=Xbh (WR.1 hh)
   rw[Xah]at r
   rw[List.getElem_take,c]at e
   exact absurd e (Xa9.1 (Qvj (t:=t) (m:=m)) j i (by omega) hi (by omega))
 have hc:cand t m ((ordM t m).take i) (Jc t y):=by
  refine⟨?_,Qbw.2 h,by rw[v];exact l⟩
  unfold cntU
  rw[WQ ht a h]
  exact Xbd.2 (List.ne_nil_of_mem (XaB.2 ⟨hy,by simp⟩))
 obtain⟨⟨g1,g2⟩,n,g4,o⟩:=Qux g hc
 have hb:=Qme (t:=t) (m:=m) (tk:=(ordM t m).take i) t.parents.length (Jc t y) g hc
 rw[show lfU t m ((ordM t m).take i) t.parents.length=lfI t m ((ordM t m).take i) from rfl]at hb
 generalize lfI t m ((ordM t m).take i)=b at *
 have d:((b.toNat:Nat):Int)=b:=by omega
 rw[d]at g4 o
 have k:=Qbw.1 g4
 have p:b∈ordM t m:=by
  unfold cntU at n
  rw[WQ ht a (by rw[d];exact k)]at n
  obtain⟨z,hz⟩:=List.exists_mem_of_length_pos n
  obtain⟨w,aa⟩:=XaB.1 hz
  exact Qdc.2 ⟨z,w,by have:=of_decide_eq_true aa;omega⟩
 obtain⟨j,r,f⟩:=Xbh p
 have ah:i<=j:=by
  refine Xct fun hlt=>?_
  have:b∈(ordM t m).take i:=by
   rw[<-f]
   exact List.mem_take_iff_getElem.2 ⟨j,by omega,rfl⟩
  rw[WR.2 this]at o
  cases o
 by_cases u:i=j
 ·subst u;rw[c];exact f.symm
 ·have hp:=Xa9.1 (Qwo (t:=t) (m:=m)) i j hi r (by omega)
  rw[f,<-c,Qaq]at hp
  have e1:=Qjk ht a (s:=b.toNat) (by rw[d];exact k) (by omega)
  have e2:=Qjk ht a h g
  have e3:(nth (ordM t m) i).toNat=Jc t y:=by omega
  rw[e3]at hp
  omega
theorem Qk3{t:QX}{m L:List Int}{i:Nat}(h:i<L.length):flM t m (L.take (i+1))=flM t m (L.take i)++m.filter fun x=>decide ((Jc t x:Int)=nth L i):=by
 have e:nth L i=L[i]:=by simp[nth,h]
 rw[XaA h,flM,XbW,e]
 simp[flM]
theorem Qpy{t:QX}{m L:List Int}:∀(k i:Nat),i+k=L.length->∃r,flM t m L=flM t m (L.take i)++r
 | 0,i,h=>⟨[],by rw[Xay (by omega),Xa3]⟩
 | k+1,i,h=>by
  obtain⟨r,hr⟩:=Qpy (t:=t) (m:=m) (L:=L) k (i+1) (by omega)
  rw[Qk3 (by omega),Xao]at hr
  exact⟨_,hr⟩
theorem QoC{t:QX}(ht:Q3 t){m:List Int}{n:Int}(hm:∀x∈m,Jc t x<t.parents.length/\Wx t.parents (Jc t x:Int)=true)(hn:n<=m.length)(hn0:0<=n):∀(f i:Nat),i<=(ordM t m).length->untk t ((ordM t m).take i)<f->ChJ t m n (insF ((flM t m ((ordM t m).take i)).take n.toNat)) ((ordM t m).take i)->
  chR t m n f (insF ((flM t m ((ordM t m).take i)).take n.toNat)) ((ordM t m).take i)=insF ((flM t m (ordM t m)).take n.toNat)
 | 0,_,_,h,_=>absurd h (Xaq _)
 | f+1,i,hi,hf,hj=>by
  unfold chR
  have hlen:=Qlu ((flM t m ((ordM t m).take i)).take n.toNat)
  rw[Xah]at hlen
  split
  ·rename_i hl
   have hi':i<(ordM t m).length:=by
    refine Nat.lt_of_le_of_ne hi fun e=>?_
    obtain⟨x,hx,hh⟩:=Qpn (t:=t) (m:=m) (tk:=(ordM t m).take i) (by have:=hj.len;omega)
    have:(Jc t x:Int)∈ordM t m:=Qdc.2 ⟨x,hx,rfl⟩
    rw[e,Xal,WR.2 this]at hh
    cases hh
   obtain⟨g1,g2,g3⟩:=QlN ht hm hn hj hl
   have hlf:=QwK ht hm hi'
   rw[hlf]at g1 g2 g3 ⊢
   have htk:(ordM t m).take i++[nth (ordM t m) i]=(ordM t m).take (i+1):=by
    rw[XaA hi']
    simp[nth,hi']
   have hlv:Wx t.parents (nth (ordM t m) i)=true:=by
    obtain⟨y,hy,e⟩:=Qdc.1 (QE hi')
    rw[<-e];exact(hm y hy).2
   have hun:Ju t m (nth (ordM t m) i)=m.filter fun x=>decide ((Jc t x:Int)=nth (ordM t m) i):=by
    have e:((nth (ordM t m) i).toNat:Int)=nth (ordM t m) i:=by omega
    rw[<-e,WQ ht (fun x hx=>(hm x hx).1) (by rw[e];exact hlv)]
    refine Xb7 fun x _=>?_
    rw[Xan,decide_eq_true_eq,decide_eq_true_eq]
    omega
   have hout:WB n (insF ((flM t m ((ordM t m).take i)).take n.toNat)) (Ju t m (nth (ordM t m) i))=insF ((flM t m ((ordM t m).take (i+1))).take n.toNat):=by
    rw[hun,Qk3 hi',QeG _ _ (by rw[Xah];omega),Xay (l:=flM t m ((ordM t m).take i)) (by omega)]
   rw[htk,hout]at g2
   rw[htk]at g3 ⊢
   rw[hout]
   exact QoC ht hm hn hn0 f (i+1) (by omega) (by omega) g2
  ·obtain⟨r,hr⟩:=Qpy (t:=t) (m:=m) (L:=ordM t m) ((ordM t m).length-i) i (by omega)
   rw[hr,Xbe (by omega)]
theorem Qls{t:QX}(ht:Q3 t){m:List Int}{n:Int}(hm:∀x∈m,Jc t x<t.parents.length/\Wx t.parents (Jc t x:Int)=true)(hn:n<=m.length)(hn0:0<=n):choE t m n=chR t m n (t.parents.length+1) [] []:=by
 have h:=QoC ht hm hn hn0 (t.parents.length+1) 0 (Nat.zero_le _) (by have:=QjN t [];rw[List.take_zero];omega) ⟨by rw[List.take_zero,Quy];simp[flM,insF];omega⟩
 rw[XbP]at h
 have b:insF ((flM t m []).take n.toNat)=[]:=by simp[flM,insF]
 rw[b]at h
 rw[h,Qk4]
 have a:=QgZ (t:=t) (m:=m) hn0 (ordM t m) (ordM t m).length (Xaj _)
 rw[Xal]at a
 unfold choE
 rw[show srtM (cntC t m) (lvL t m)=ordM t m from rfl,a]
theorem Qn8{t:QX}{l r:List Int}{n most:Int}(ht:Q3 t)(hl:Jo t l)(hn:1<=n)(h:WJ t l n most=some r):(r.length:Int)<=n:=by
 unfold WJ at h
 split at h
 ·cases h
 ·have b:=Qi5 (t:=t) (l:=l) (n:=n) (most:=most) t.parents.length
  rw[show swU t l n most t.parents.length=swI t l n most from rfl]at b
  have a:=b (by omega)
  unfold cntU at a
  rw[show((swI t l n most).toNat:Int)=swI t l n most by omega]at a
  rw[<-Qls ht (V7 ht (Vl hl)) a (by omega)]at h
  injection h with h
  subst h
  have c:=QgZ (t:=t) (m:=Ju t l (swI t l n most)) (n:=n) (by omega) (srtM (cntC t (Ju t l (swI t l n most))) (lvL t (Ju t l (swI t l n most)))) _ (Xaj _)
  rw[Xal]at c
  unfold choE
  rw[Yj,c,Xah]
  omega
theorem Qsw{t:QX}{l:List Int}{n most:Int}(ht:Q3 t)(hl:Jo t l)(hn:1<=n)(hll:l.length<=100000):OR 264 [YW t,zL (intE l),zI n,zI most] (WJ t l n most):=by
 have h:=QtB (most:=most) ht hl hn hll
 unfold WJ
 split
 ·rename_i a;rw[if_pos a]at h;exact h
 ·rename_i a
  rw[if_neg a]at h
  have c:=Qi5 (t:=t) (l:=l) (n:=n) (most:=most) t.parents.length
  rw[show swU t l n most t.parents.length=swI t l n most from rfl]at c
  have b:=c (by omega)
  unfold cntU at b
  rw[show((swI t l n most).toNat:Int)=swI t l n most by omega]at b
  rw[<-Qls ht (V7 ht (Vl hl)) b (by omega)]
  exact h
end Go.Proofs.YtkdniahincpmaaaGreat
