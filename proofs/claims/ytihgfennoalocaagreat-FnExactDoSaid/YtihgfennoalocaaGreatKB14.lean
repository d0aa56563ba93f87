/-
  The library's sort by a function, at numbers: the leaves by how many nodes they have.
-/
import Derived.Test.YtihgfennoalocaaGreatKB29
import Derived.Test.YtihgfennoalocaaGreatKB10
import Derived.Deep.QuietTactic
import Derived.Test.YtihgfennoalocaaGreatKB13
import Derived.Test.YtihgfennoalocaaGreatKB7
set_option maxRecDepth 100000
set_option maxHeartbeats 16000000
namespace Go.Proofs.YtihgfennoalocaaGreat
open Go Go.RowKit Go.Sort Go.Shelf

def cfM(c:List Int)(x y:Int):Int:=if nth c x.toNat≠nth c y.toNat then nth c y.toNat-nth c x.toNat else x-y
theorem Qfr{W:World}{p:Addr}{mb mo n cap:Nat}{c:List Int}{x y:Int}(h1:W.cell? p=some (.slice (some ⟨mb,mo,none⟩) n cap))(hn:n=c.length)(h2:∀j,j<n->W.cell? ⟨mb,mo+j,none⟩=some (.int .i64 (nth c j)))
  (h3:∀j,j<n->-1000000<=nth c j/\nth c j<=1000000) (hx:0<=x/\x<n) (hy:0<=y/\y<n) (hnn:n<=1000000) :
  Calls Tryz.prog 306 #[.int .i64 x,.int .i64 y,.pointer (some p)] W fun e w'=>e=.returned (.int .i64 (cfM c x y))/\∃q,w'=W.drewN q:=by
 obtain⟨hx1,hx2⟩:=hx
 obtain⟨hy1,hy2⟩:=hy
 have cx:=h2 x.toNat (by omega)
 have cy:=h2 y.toNat (by omega)
 have bx:=h3 x.toNat (by omega)
 have by':=h3 y.toNat (by omega)
 by_cases huv:nth c x.toNat=nth c y.toNat
 ·rw[show cfM c x y=x-y from if_neg (fun h=>h huv)]
  rw[<-huv]at cy
  clear by'
  generalize nth c x.toNat=u at *
  clear h2 h3 huv
  go_enter Tryz.func306,Tryz.ntmps306
  go_wp2
  go_quiet (fail)
  go_wp2
  go_ret
  exact⟨rfl,_,rfl⟩
 ·rw[show cfM c x y=nth c y.toNat-nth c x.toNat from if_pos huv]
  generalize nth c x.toNat=u at *
  generalize nth c y.toNat=v at *
  clear h2 h3
  go_enter Tryz.func306,Tryz.ntmps306
  go_wp2
  go_quiet (fail)
  go_wp2
  go_quiet (fail)
  go_wp2
  go_ret
  exact⟨rfl,_,World.drewN_drewN _ _ _⟩
theorem QdO{P:Program}{f:FuncId}{e:TypeId}{es es':List (List D)}{d:Bool}{z:Nat}{xs:List AV}(hz:(P.info? e).map (·.size)=some z)(hfl:YT es=true)(hfl':YT es'=true)(hl:es'.map List.length=es.map List.length)(hent:∀us w',(callFunc f us).run P w'=.ok (.enter f us) w')
  (h:∀(w:World) (v:Value) (us us2:List Value) (en:List Ent) (S:Nat->Prop),w.ownsRow 0 e z v es.length us->repE w es us []->Qn w en S xs us2->(∀b,S b->b<w.heap.size/\blk v≠some b)->
   Calls P f (v::us2).toArray w fun en w'=>en=.returned (.tuple #[])/\w.grownBy w' (blk v)/\∃us',w'.ownsRow 0 e z v es.length us'/\repE w' es' us' []) :
  MCalls P f (.row 1000000::xs) [(1000000,.row e es d)] (fun _:Unit=>True) (fun _=>[]) (fun _=>[(1000000,.row e es' d)]) (fun _=>[]):=by
 have hlen:es'.length=es.length:=by have:=congrArg List.length hl;simpa using this
 refine⟨⟨⟨.inr (.inl hfl),trivial⟩,fun _ _=>⟨⟨⟨rfl,rfl,hl.symm⟩,trivial⟩,.inr (.inl hfl'),trivial⟩⟩,?_⟩
 intro w Zp eh us hm hkey hsh
 obtain⟨x,rfl⟩:∃x,eh=[x]:=by
  cases eh with
  | nil=>exact absurd (congrArg List.length hkey) (by simp)
  | cons x l=>
   cases l with
   | nil=>exact⟨x,rfl⟩
   | cons y l=>exact absurd (congrArg List.length hkey) (by simp)
 simp only[Xaw,Xbb,Ent.key,Xbw,Xcd,and_true]at hkey
 obtain⟨hxn,hxa⟩:=hkey
 obtain⟨v,us2,rfl,hv,hsh2⟩:=hsh
 obtain⟨y,hy,hyn,hyr,hyv⟩:=hv
 have hyx:y=x:=by simpa using hy
 subst hyx
 have hok:=hm.ok y Xaa
 unfold EntOk at hok
 rw[hxa]at hok
 obtain⟨z',vs,k0,k1,k2,k3,k4,k5,k6,k7⟩:=hok
 have hzz:z'=z:=by rw[hz]at k0;simpa using k0.symm
 subst hzz
 have hfs:=Yt k4 (Yd hfl)
 rw[hfs]at k4
 subst hyv
 refine⟨fun w'=>hent _ w',(h w y.val vs us2 _ _ k2 k4 hsh2 (fun b hb=>⟨hb.2.1,fun e=>hb.2.2 y Xaa (.inl e)⟩)).mono fun en w' ⟨he,hg,vs',ho,hr⟩=>⟨(),.tuple #[],[⟨1000000,.row e es' d,y.val,[]⟩],⟨trivial,rfl⟩,he,⟨hg.os,hg.tape,hg.output,hg.size,fun b hb hO=>?_,by simp,by simp,fun q hq=>?_,by simp,fun q hq=>?_⟩,?_,[],rfl,rfl⟩⟩
 ·exact hg.block b hb fun e=>hO ⟨y,Xaa,.inl e.symm⟩
 ·have hqx:q=⟨1000000,.row e es' d,y.val,[]⟩:=by simpa using hq
  subst hqx
  unfold EntOk
  refine⟨z',vs',hz,k1,by rw[hlen];exact ho,fun el hel=>?_,hr,by simp,k6,fun _=>⟨by simp,by simp,NstL.nilE hr⟩⟩
  have h1:el.length∈es.map List.length:=by rw[<-hl];exact Xad.2 ⟨el,hel,rfl⟩
  obtain⟨el',hel',e1⟩:=Xad.1 h1
  rw[<-e1]
  exact k3 el' hel'
 ·have hqx:q=⟨1000000,.row e es' d,y.val,[]⟩:=by simpa using hq
  subst hqx
  intro _ q hq hqn
  have:q=y:=by simpa using hq
  rw[this]
 ·exact Xbv _
theorem XE(c:List Int)(x y:Int):cfM c x y<0↔nth c y.toNat<nth c x.toNat\/nth c x.toNat=nth c y.toNat/\x<y:=by
 unfold cfM
 split <;> omega
theorem QsV{α:Type}(c:List Int)(f:α->Int):SWO (ltOf fun x y:α=>cfM c (f x) (f y)) where
 irrefl x:=decide_eq_false fun h=>by have:=(XE c _ _).1 h;omega
 trans x y z h1 h2:=decide_eq_true ((XE c _ _).2 (by
  have h1:=(XE c _ _).1 (of_decide_eq_true h1)
  have h2:=(XE c _ _).1 (of_decide_eq_true h2)
  omega))
 ntrans x y z h1 h2:=decide_eq_false fun h=>by
  have h:=(XE c _ _).1 h
  have h1:¬_:=fun e=>of_decide_eq_false h1 ((XE c _ _).2 e)
  have h2:¬_:=fun e=>of_decide_eq_false h2 ((XE c _ _).2 e)
  omega
theorem QsI{c:List Int}{x y:Int}(h1:¬cfM c x y<0)(h2:¬cfM c y x<0):x=y:=by
 simp only[cfM]at *
 split at h1 <;> split at h2 <;> omega
def srtM(c l:List Int):List Int:=l.mergeSort fun x y=>!decide (cfM c y x<0)
theorem XK(c l:List Int):(srtM c l).length=l.length:=Xcl l
theorem QkJ{c l:List Int}{x:Int}:x∈srtM c l↔x∈l:=(XbC l _).mem_iff
theorem QjJ{p:Int->Prop}:∀(l:List Int),(∀x∈l,p x)->∃d:List { x:Int // p x },d.map Subtype.val=l
 | [],_=>⟨[],rfl⟩
 | x::l,h=>by
  obtain⟨d,hd⟩:=QjJ l fun y hy=>h y (Xae _ hy)
  exact⟨⟨x,h x Xaa⟩::d,by rw[Xaw,hd]⟩
theorem Qh5{p:Int->Prop}[Inhabited { x:Int // p x }](d:List { x:Int // p x })(cur:Array Value):putCells (fun x:{ x:Int // p x }=>Value.int .i64 x.1) 0 d.toArray cur=putCells (Value.int .i64) 0 (d.map Subtype.val).toArray cur:=by
 unfold putCells
 congr 1
 funext k x
 simp only[XbB,Xah]
 by_cases hk:0<=k/\k<0+d.length
 ·have hk':k<d.length:=by omega
  rw[if_pos hk,if_pos hk]
  simp[hk']
 ·rw[if_neg hk,if_neg hk]
theorem QeJ{p:Int->Prop}[Inhabited { x:Int // p x }](w:World)(g:Nat)(d:List { x:Int // p x }):putRow (fun x:{ x:Int // p x }=>Value.int .i64 x.1) w g 0 d.toArray=putRow (Value.int .i64) w g 0 (d.map Subtype.val).toArray:=by
 unfold putRow
 congr 1
 funext cur
 exact Qh5 d cur
theorem Qif{w w':World}{g:Nat}(h:w.grownBy w' (some g)){b:Nat}(hb:b<w.heap.size)(hg:g≠b)(o:Nat):w'.cell? ⟨b,o,none⟩=w.cell? ⟨b,o,none⟩:=Same.cell (h.block b hb fun e=>hg (Option.some.inj e).symm) o
theorem QtL{c l:List Int}{dd:Bool}(h0:0<l.length)(hl:∀x∈l,0<=x/\x<(c.length:Int))(hc:c.length<=1000000)(hb:∀j,j<c.length->-1000000<=nth c j/\nth c j<=1000000)(hll:l.length<=1000000) :
  MCalls Tryz.prog 305 [.row 1000000,.clo 306 [.pd [.sl (intE c)] 0]] [(1000000,.row 3 (intE l) dd)] (fun _:Unit=>True) (fun _=>[]) (fun _=>[(1000000,.row 3 (intE (srtM c l)) dd)]) (fun _=>[]):=by
 refine QdO (z:=1) ti3.sized (QN fun _=>rfl) (QN fun _=>rfl) (JN (f:=fun(x:Int)=>[D.n .i64 x]) (fun _=>rfl) (XK c l)) (fun us w'=>Go.MuLone.run_callFunc_enter Tryz.func305 rfl rfl us w') ?_
 intro w v us us2 en S ho hr hsh hS
 rw[WC hr,Qb]at ho
 rw[Qb]
 obtain⟨fv,us3,rfl,hf,h3⟩:=hsh
 have h3':us3=[]:=h3
 subst h3'
 obtain⟨cbs,rfl,hcb⟩:=hf
 obtain⟨pv,us4,rfl,hp,h4⟩:=hcb
 have h4':us4=[]:=h4
 subst h4'
 obtain⟨pb,po,ws,F,rfl,hrep,hcell,hpb,hF⟩:=hp
 obtain⟨u,us5,F1,F2,rfl,rfl,hu,h5⟩:=hrep
 obtain⟨x0,l',rfl⟩:∃x l',l=x::l':=by
  cases l with
  | nil=>simp at h0
  | cons x l'=>exact⟨x,l',rfl⟩
 have hx0:=hl x0 Xaa
 obtain⟨A,mcap,z,ms,F',rfl,m1,m2,m3,m4,m5,m6⟩:=hu
 rcases m6 with ⟨m6,_⟩|⟨m6,mb,mo,rfl,m7,rfl,m8⟩
 ·have:c.length=0:=by rw[<-Qb c,m6];rfl
  omega
 rcases ho.2 with ⟨hv,hn⟩|⟨g,cap,cur,hv,hbg,hg,hnc,hcm,hcs,htake⟩
 ·simp at hn
 subst hv
 rw[Nat.mul_one]at htake
 have hgl:=(Array.getElem?_eq_some_iff.1 hg).1
 have hne:∀b,S b->b<w.heap.size/\g≠b:=fun b hb=>⟨(hS b hb).1,fun e=>(hS b hb).2 (by rw[e];rfl)⟩
 have hms:=WC m5
 obtain⟨d,hd⟩:=QjJ (p:=fun x=>0<=x/\x<(c.length:Int)) (x0::l') hl
 haveI:Inhabited { x:Int // 0<=x/\x<(c.length:Int) }:=⟨⟨x0,hx0⟩⟩
 have hdl:d.toArray.size=(x0::l').length:=by rw[<-hd,XbB,Xah]
 have hH0:=holds_of_blockI hg htake
 have hH:Holds (fun x:{ x:Int // 0<=x/\x<(c.length:Int) }=>Value.int .i64 x.1) w g 0 d.toArray:=by
  intro j hj
  have hj':j<d.length:=by simpa using hj
  have:=hH0 j (by rw[<-hd];simpa using hj')
  refine⟨this.1.trans ?_,this.2⟩
  simp only[<-hd]
  simp[hj']
 have hcmp:CmpReads Tryz.prog 306 #[.pointer (some ⟨pb,po+0,none⟩)] (fun x:{ x:Int // 0<=x/\x<(c.length:Int) }=>Value.int .i64 x.1) (fun x y=>cfM c x.1 y.1) g 0 d.toArray.size w:=by
  intro m os dk _ x y
  have hgr:w.grownBy (sortWorld (fun x:{ x:Int // 0<=x/\x<(c.length:Int) }=>Value.int .i64 x.1) w g 0 m dk os) (some g):=by
   unfold sortWorld
   rw[<-Array.toArray_toList (xs:=dk),QeJ]
   exact grownBy_sortedI _
  refine Qfr (c:=c) (mb:=mb) (mo:=mo) (n:=(intE c).length) (cap:=mcap) ?_ (Qb c) ?_ ?_ ?_ ?_ ?_
  ·rw[Qif hgr (hne pb hpb).1 (hne pb hpb).2]
   exact hcell 0 _ rfl
  ·intro j hj
   rw[Qb]at hj
   have hmb:=hne mb (hF mb (by simp))
   rw[Qif hgr hmb.1 hmb.2]
   refine m8 j _ ?_
   rw[hms]
   simp[nth,hj]
  ·intro j hj;exact hb j (by rwa [Qb]at hj)
  ·have:=x.2;rw[Qb];exact this
  ·have:=y.2;rw[Qb];exact this
  ·rw[Qb];exact hc
 have hcon:=Any.slices_SortFunc_total Tryz.sortF (fun x:{ x:Int // 0<=x/\x<(c.length:Int) }=>Value.int .i64 x.1) (fun _=>rfl) (fun x y=>cfM c x.1 y.1) (QsV c _) 306 #[.pointer (some ⟨pb,po+0,none⟩)] g 0 cap d.toArray w
  (fun args w'=>Go.MuLone.run_callFunc_enter Tryz.func306 rfl rfl args w') hcmp.lays hH hgl (by rw[hdl];omega)
  (fun x y h1 h2=>Subtype.ext (QsI (of_decide_eq_false h1) (of_decide_eq_false h2)))
 rw[hdl]at hcon
 change Calls Tryz.prog 305 _ _ _ at hcon
 have hsv:(d.mergeSort fun x y=>!(ltOf fun x y:{ x:Int // 0<=x/\x<(c.length:Int) }=>cfM c x.1 y.1) y x).map Subtype.val=srtM c (x0::l'):=by
  unfold srtM
  rw[<-hd]
  exact List.map_mergeSort fun a _ b _=>rfl
 refine hcon.mono fun e w' ⟨he,n,os,hw⟩=>?_
 have hw2:w'=grow (putRow (Value.int .i64) (Sort.ahead w n) g 0 (srtM c (x0::l')).toArray) os:=by
  rw[hw,<-hsv]
  unfold sortWorld
  rw[QeJ]
 subst hw2
 exact⟨he,grownBy_sortedI _,(srtM c (x0::l')).map (Value.int .i64),ownsRow_sortedI (XK c _) (Xab _) hg hnc hcm hcs,QdI _ _⟩
end Go.Proofs.YtihgfennoalocaaGreat
namespace Go.Proofs.YtihgfennoalocaaGreat
open Go Go.RowKit Tryz
section
attribute [local irreducible] AWp QJ OpOk ACalls ChA QsOk MCalls EnC PY

def cntC(t:QW)(m:List Int):List Int:=(List.range t.parents.length).map fun(s:Nat)=>((m.filter fun x=>decide (Q2 t x=s)).length:Int)
theorem Qcp(t:QW)(m:List Int):(cntC t m).length=t.parents.length:=by simp[cntC]
theorem Qco{t:QW}{m:List Int}{s:Nat}(h:s<t.parents.length):nth (cntC t m) s=((m.filter fun x=>decide (Q2 t x=s)).length:Int):=by
 rw[nth,List.getD_eq_getElem?_getD,List.getElem?_eq_getElem (by rw[Qcp];exact h)]
 simp[cntC]
theorem Qq4(t:QW):cntC t []=List.replicate t.parents.length 0:=by
 refine List.ext_getElem (by simp[cntC]) fun i h1 h2=>?_
 simp[cntC]
theorem QoW{t:QW}{m:List Int}{i:Nat}(h:i<m.length)(hl:Q2 t (nth m i)<t.parents.length):cntC t (m.take (i+1))=(cntC t (m.take i)).set (Q2 t (nth m i)) (nth (cntC t (m.take i)) (Q2 t (nth m i))+1):=by
 have e:nth m i=m[i]:=by simp[nth,h]
 refine List.ext_getElem (by simp[cntC]) fun s h1 h2=>?_
 have hs:s<t.parents.length:=by simpa [cntC] using h1
 rw[List.getElem_set]
 by_cases hc:Q2 t (nth m i)=s
 ·rw[if_pos hc,Qco hl,hc]
  simp only[cntC,Xca,List.getElem_range]
  rw[XaB h,Xa9,<-e]
  simp[hc]
 ·rw[if_neg hc]
  simp only[cntC,Xca,List.getElem_range]
  rw[XaB h,Xa9,<-e]
  simp[hc]
def lvS(o:List Int)(s:Int):List Int:=if hasI o s=true then o else o++[s]
def lvL(t:QW)(m:List Int):List Int:=m.foldl (fun o x=>lvS o (Q2 t x)) []
theorem Qp7{t:QW}{m:List Int}{i:Nat}(h:i<m.length):lvL t (m.take (i+1))=lvS (lvL t (m.take i)) (Q2 t (nth m i)):=by
 have e:nth m i=m[i]:=by simp[nth,h]
 rw[XaB h,lvL,XaQ,e]
 rfl
theorem Qm3{t:QW}{x:Int}:∀(m o:List Int),x∈m.foldl (fun o x=>lvS o (Q2 t x)) o↔x∈o\/∃y∈m,(Q2 t y:Int)=x
 | [],o=>by simp
 | y::m,o=>by
  rw[Xbj,Qm3 m]
  unfold lvS
  split
  ·rename_i h
   have h:=Wn.1 h
   constructor
   ·rintro (h|⟨z,hz,e⟩)
    ·exact .inl h
    ·exact .inr ⟨z,Xae _ hz,e⟩
   ·rintro (h|⟨z,hz,e⟩)
    ·exact .inl h
    ·rcases Xaj.1 hz with rfl|hz
     ·exact .inl (e▸h)
     ·exact .inr ⟨z,hz,e⟩
  ·rw[Xag,XaM]
   constructor
   ·rintro ((h|h)|⟨z,hz,e⟩)
    ·exact .inl h
    ·exact .inr ⟨y,Xaa,h.symm⟩
    ·exact .inr ⟨z,Xae _ hz,e⟩
   ·rintro (h|⟨z,hz,e⟩)
    ·exact .inl (.inl h)
    ·rcases Xaj.1 hz with rfl|hz
     ·exact .inl (.inr e.symm)
     ·exact .inr ⟨z,hz,e⟩
theorem Qjq{t:QW}{m:List Int}{x:Int}:x∈lvL t m↔∃y∈m,(Q2 t y:Int)=x:=by
 rw[lvL,Qm3];simp
theorem QrH{t:QW}:∀(m o:List Int),o.Nodup->(m.foldl (fun o x=>lvS o (Q2 t x)) o).Nodup
 | [],_,h=>h
 | y::m,o,h=>by
  rw[Xbj]
  refine QrH m _ ?_
  unfold lvS
  split
  ·exact h
  ·rename_i hn
   rw[Xbe]
   refine⟨h,by simp,fun a ha b hb=>?_⟩
   rw[XaM]at hb
   intro e
   exact hn (Wn.2 (by rw[<-hb,<-e];exact ha))
theorem Quj{t:QW}{m:List Int}:(lvL t m).Nodup:=QrH m [] List.nodup_nil
theorem Qpq{t:QW}:∀(m o:List Int),(m.foldl (fun o x=>lvS o (Q2 t x)) o).length<=o.length+m.length
 | [],o=>by simp
 | y::m,o=>by
  rw[Xbj]
  have h:=Qpq (t:=t) m (lvS o (Q2 t y))
  have:(lvS o (Q2 t y)).length<=o.length+1:=by unfold lvS;split <;> simp
  simp only[Xar]
  omega
theorem QsR{t:QW}{m:List Int}:(lvL t m).length<=m.length:=by have:=Qpq (t:=t) m [];simpa [lvL] using this
def inS(t:QW)(n lf:Int)(o:List Int)(x:Int):List Int:=if(Q2 t x:Int)=lf/\(o.length:Int)<n then o++[x]else o
def inL(t:QW)(n:Int)(m:List Int)(o:List Int)(lf:Int):List Int:=m.foldl (inS t n lf) o
def outL(t:QW)(n:Int)(m:List Int)(L:List Int):List Int:=L.foldl (inL t n m) []
theorem Qry{t:QW}{n lf:Int}{m o:List Int}{i:Nat}(h:i<m.length):inL t n (m.take (i+1)) o lf=inS t n lf (inL t n (m.take i) o lf) (nth m i):=by
 have e:nth m i=m[i]:=by simp[nth,h]
 rw[XaB h,inL,XaQ,e]
 rfl
theorem QhN{t:QW}{n:Int}{m L:List Int}{i:Nat}(h:i<L.length):outL t n m (L.take (i+1))=inL t n m (outL t n m (L.take i)) (nth L i):=by
 have e:nth L i=L[i]:=by simp[nth,h]
 rw[XaB h,outL,XaQ,e]
 rfl
theorem Qj3{t:QW}{n lf:Int}:∀(m o:List Int),(o.length:Int)<=n->inL t n m o lf=(o++m.filter fun x=>decide ((Q2 t x:Int)=lf)).take n.toNat
 | [],o,h=>by rw[List.filter_nil,Xa2,Xaz (by omega)];rfl
 | x::m,o,h=>by
  show inL t n m (inS t n lf o x) lf=_
  unfold inS
  by_cases h1:(Q2 t x:Int)=lf
  ·rw[List.filter_cons_of_pos (by simpa using h1)]
   by_cases h2:(o.length:Int)<n
   ·rw[if_pos ⟨h1,h2⟩,Qj3 m _ (by simp;omega),Xaq]
    rfl
   ·rw[if_neg (fun e=>h2 e.2),Qj3 m _ h]
    have e:n.toNat=o.length:=by omega
    rw[e]
    simp
  ·rw[if_neg (fun e=>h1 e.1),Qj3 m _ h,List.filter_cons_of_neg (by simpa using h1)]
def flM(t:QW)(m:List Int)(L:List Int):List Int:=L.flatMap fun lf=>m.filter fun x=>decide ((Q2 t x:Int)=lf)
theorem Qfe{t:QW}{n:Int}{m:List Int}(hn:0<=n)(L:List Int):∀(i:Nat),i<=L.length->outL t n m (L.take i)=(flM t m (L.take i)).take n.toNat
 | 0,_=>by simp[outL,flM]
 | i+1,h=>by
  rw[QhN (by omega),Qfe hn L i (by omega),Qj3 _ _ (by rw[Xai];omega)]
  have e:nth L i=L[i]:=by simp[nth,show i<L.length by omega]
  rw[XaB (by omega),flM,flM,XbT,e]
  generalize List.flatMap _ (List.take i L)=a
  simp only[Xbk,List.flatMap_nil,Xa2]
  rw[List.take_append,List.take_append,Xcz,Nat.min_self,Xai]
  congr 2
  omega

def lowS(t:QW)(b:Int):Int:=if b<0 then 0 else lvl t.parents b.toNat
def fewS(t:QW)(l:List Int)(b:Int):Nat:=if b<0 then 0 else cntU t l b.toNat
def choE(t:QW)(m:List Int)(n:Int):List Int:=srtI (outL t n m (srtM (cntC t m) (lvL t m)))
@[reducible] def optR (o:Option (List Int)):List AV:=match o with
 | none=>[zL [],.d (.b false)]
 | some _=>[.row 0,.d (.b true)]
@[reducible] def optB (o:Option (List Int)):List (Nat×AO):=match o with
 | none=>[]
 | some l=>[(0,.row 3 (intE l) true)]
abbrev OR(f:FuncId)(args:List AV)(o:Option (List Int)):Prop:=MCalls Tryz.prog f args [] (fun _:Unit=>True) (fun _=>optR o) (fun _=>[]) (fun _=>optB o)
theorem Qq8{t:QW}{l:List Int}{n most:Int}(ht:QY t)(hl:Jz t l)(hn:1<=n)(hll:l.length<=100000):OR 287 [Yy t,zL (intE l),zI n,zI most] (if swI t l n most<0 then none else some (choE t (Jk t l (swI t l n most)) n)):=by
  refine zMC func287 fun w0 Z O=>?_
  have htl:=ht.len
  have htn:=ht.nlen
  have hle:=Qb l
  repeat'(first|(refine zhm fun hb=>?_;try exact zab)|refine zUtp ?_|refine zg2 ?_ ?_|intro _|fail)
  refine Qa (fun(i:Nat)=>⟨146,[(1,zL (intE l)),(2,zI n),(3,zI most),(4,.ptr 4 0),(10,zI (swU t l n most i)),(11,zI (lowS t (swU t l n most i))),(12,zI (fewS t l (swU t l n most i):Nat)),(28,zI (t.parents.length:Nat)),(29,zI i)],[(4,.box 43 (We t))]⟩) (fun i=>i<=t.parents.length) (fun i=>t.parents.length-i) 0 (by exact Xab _) ?_ ?_
  · exact zll
  intro k hk0
  by_cases hi':k<t.parents.length
  · have hb:=Qij (t:=t) (l:=l) (n:=n) (most:=most) k
    have hst:=Qrw (t:=t) (l:=l) (n:=n) (most:=most) (i:=k)
    unfold swS at hst
    have hul:=Yf (t:=t) (l:=l) (s:=(k:Int))
    have hcu:(Jk t l (k:Int)).length=cntU t l k:=rfl
    have c1:=Qmv (t:=t) (l:=l) (s:=(k:Int)) ht hl (by omega)
    have c2:=Qfv ht hi'
    have hkk:¬((k:Nat):Int)<0:=by omega
    have hl1:lowS t ((k:Nat):Int)=lvl t.parents k:=if_neg hkk
    have hf1:fewS t l ((k:Nat):Int)=cntU t l k:=if_neg hkk
    by_cases hneg:swU t l n most k<0
    · repeat'(first|(refine zhm fun hb=>?_;try exact zab)|refine zUtp ?_|refine zg2 ?_ ?_|refine kmu c1 ?_|intro _|fail)
      all_goals
        refine⟨k+1,by omega,by omega,?_⟩
        refine⟨rfl,?_,?_,rfl⟩
        repeat'(first|exact ze3|refine ze2 ?_ ?_|refine ze4 ?_|exact ze5|fail)
        all_goals exact zp (by first|rfl|(rw[hst,if_pos ⟨by omega,by omega,.inl (by omega)⟩];first|rfl|rw[hl1]|rw[hf1])|(rw[hst,if_neg (fun h=>by omega)]))
    · have hl2:lowS t (swU t l n most k)=lvl t.parents (swU t l n most k).toNat:=if_neg hneg
      have hf2:fewS t l (swU t l n most k)=cntU t l (swU t l n most k).toNat:=if_neg hneg
      repeat'(first|(refine zhm fun hb=>?_;try exact zab)|refine zUtp ?_|refine zg2 ?_ ?_|refine kmu c1 ?_|intro _|fail)
      all_goals
        refine⟨k+1,by omega,by omega,?_⟩
        refine⟨rfl,?_,?_,rfl⟩
        repeat'(first|exact ze3|refine ze2 ?_ ?_|refine ze4 ?_|exact ze5|fail)
        all_goals exact zp (by first|rfl|(rw[hst,if_pos ⟨by omega,by omega,.inr (.inl (by omega))⟩];first|rfl|rw[hl1]|rw[hf1])|(rw[hst,if_pos ⟨by omega,by omega,.inr (.inr ⟨by omega,by omega⟩)⟩];first|rfl|rw[hl1]|rw[hf1])|(rw[hst,if_neg (fun h=>by omega)]))
  obtain rfl:k=t.parents.length:=by omega
  have hin:=Qij (t:=t) (l:=l) (n:=n) (most:=most) t.parents.length
  have hok:=Qhw (t:=t) (l:=l) (n:=n) (most:=most) t.parents.length
  rw[show swU t l n most t.parents.length=swI t l n most from rfl]at hin hok ⊢
  by_cases hneg:swI t l n most<0
  · rw[if_pos hneg]
    repeat'(first|(refine zhm fun hb=>?_;try exact zab)|refine zUrp ?_|refine zg2 ?_ ?_|intro _|fail)
    exact zDR
  rw[if_neg hneg]
  have hs0:((swI t l n most).toNat:Int)=swI t l n most:=by omega
  have hcn:=hok (by omega)
  unfold cntU at hcn
  rw[hs0]at hcn
  have c3:=Qmv (t:=t) (l:=l) (s:=swI t l n most) ht hl (by omega)
  have hml:=Yf (t:=t) (l:=l) (s:=swI t l n most)
  have hmi:=WD (s:=swI t l n most) hl
  generalize Jk t l (swI t l n most)=m at hcn c3 hml hmi ⊢
  have hmf:=Vl ht hmi
  have hle2:=Qb m
  repeat'(first|(refine zhm fun hb=>?_;try exact zab)|refine zUtp ?_|refine zg2 ?_ ?_|refine kmu c3 ?_|intro _|fail)
  refine Qa (fun(i:Nat)=>⟨146,[(1,zL (intE m)),(2,zI n),(4,.ptr 4 0),(16,.ptr 16 0),(17,.row 79),(80,zL (intE m)),(81,zI (m.length:Nat)),(82,zI i)],[(4,.box 43 (We t)),(16,.box 22 [.row 78]),(78,.row 3 (intE (cntC t (m.take i))) true),(79,.row 3 (intE (lvL t (m.take i))) true)]⟩) (fun i=>i<=m.length) (fun i=>m.length-i) 0 (by exact Xab _) ?_ ?_
  · refine⟨rfl,?_,?_,rfl⟩
    repeat'(first|exact ze3|refine ze2 ?_ ?_|refine ze4 ?_|exact ze5|fail)
    all_goals exact zp (by first|rfl|exact Qb _|(rw[List.take_zero,Qq4];simp[intE]))
  intro k hk
  have hll2:=QsR (t:=t) (m:=m.take k)
  rw[Xai]at hll2
  by_cases hk':k<m.length
  · have hin:=hmi k hk'
    obtain⟨hlf,hlf2⟩:=hmf _ (QO hk')
    obtain⟨_,hnl⟩:=ht.leaf hmi hk'
    have hst:=QoW (t:=t) hk' hlf
    have hst2:=Qp7 (t:=t) hk'
    have hcl:=Qcp t (m.take k)
    have hcn2:=Qco (t:=t) (m:=m.take k) hlf
    have hflt:((m.take k).filter fun x=>decide (Q2 t x=Q2 t (nth m k))).length<=k:=Xao (Xa1 _ _) (by rw[Xai];omega)
    have c4:=WM (l:=lvL t (m.take k)) (x:=(Q2 t (nth m k):Int)) (by omega)
    have hnat:nth m k=((nth m k).toNat:Int):=by omega
    have hbd:0<=nth (cntC t (m.take k)) (nth t.nodes (nth m k).toNat).leaf.toNat/\nth (cntC t (m.take k)) (nth t.nodes (nth m k).toNat).leaf.toNat<=k:=by
      show 0<=nth (cntC t (m.take k)) (Q2 t (nth m k))/\_<=_
      rw[hcn2]
      show _/\nth (cntC t (m.take k)) (Q2 t (nth m k))<=_
      rw[hcn2]
      omega
    obtain⟨h1,_,_⟩:=ht.nodes (nth m k).toNat (by omega)
    unfold lvS at hst2
    have hel:(intE (cntC t (m.take k))).length=t.parents.length:=by rw[Qb,Qcp]
    cases hh:hasI (lvL t (m.take k)) (Q2 t (nth m k)) with
    | true=>
      rw[hh]at c4
      rw[if_pos hh]at hst2
      rw[<-hnl]at c4
      repeat'(first|(refine zhm fun hb=>?_;try exact zab)|refine zUtn ?_|refine zg2 ?_ ?_|intro _|fail)
      refine⟨k+1,by omega,by omega,?_⟩
      refine⟨rfl,?_,?_,rfl⟩
      repeat'(first|exact ze3|refine ze2 ?_ ?_|refine ze4 ?_|exact ze5|fail)
      all_goals exact zp (by first|rfl|rw[hst2]|(rw[hst];exact(Qf9 _ _ _)))
    | false=>
      rw[hh]at c4
      rw[if_neg (by rw[hh];simp)]at hst2
      rw[<-hnl]at c4
      repeat'(first|(refine zhm fun hb=>?_;try exact zab)|refine zUtn ?_|refine zg2 ?_ ?_|intro _|fail)
      refine⟨k+1,by omega,by omega,?_⟩
      refine⟨rfl,?_,?_,rfl⟩
      repeat'(first|exact ze3|refine ze2 ?_ ?_|refine ze4 ?_|exact ze5|fail)
      all_goals exact zp (by first|rfl|(rw[hst2,hnl];exact Jt _ _)|(rw[hst];exact(Qf9 _ _ _)))
  obtain rfl:k=m.length:=by omega
  rw[Xap]at *
  have hcl:=Qcp t m
  have hcb:∀j,j<(cntC t m).length->-1000000<=nth (cntC t m) j/\nth (cntC t m) j<=1000000:=fun j hj=>by
    rw[Qco (by omega)]
    have:=Xa1 (fun x=>decide (Q2 t x=j)) m
    omega
  have hlv:∀x∈lvL t m,0<=x/\x<((cntC t m).length:Int):=fun x hx=>by
    obtain⟨y,hy,rfl⟩:=Qjq.1 hx
    have:=(hmf y hy).1
    omega
  have hpos:0<(lvL t m).length:=by
    refine Xbp.2 fun e=>?_
    have h1:(Q2 t (nth m 0):Int)∈lvL t m:=Qjq.2 ⟨_,QO (by omega),rfl⟩
    rw[e]at h1
    cases h1
  have c5:=QtL (c:=cntC t m) (l:=lvL t m) (dd:=true) hpos hlv (by omega) hcb (by omega)
  unfold choE
  have hsl:=XK (cntC t m) (lvL t m)
  have hsm:∀j,j<(srtM (cntC t m) (lvL t m)).length->0<=nth (srtM (cntC t m) (lvL t m)) j/\nth (srtM (cntC t m) (lvL t m)) j<1000000:=fun j hj=>by
    have:=hlv _ (QkJ.1 (QO hj))
    omega
  generalize srtM (cntC t m) (lvL t m)=L at c5 hsl hsm ⊢
  generalize lvL t m=lv at *
  generalize cntC t m=cc at *
  have hle3:=Qb L
  repeat'(first|(refine zhm fun hb=>?_;try exact zab)|(refine Qi 24 78 rfl ?_)|(refine Y9 24 16 rfl rfl ?_)|(refine Qi 26 79 rfl ?_)|refine zUtp ?_|refine zg2 ?_ ?_|(refine km [79] (c5) rfl rfl (fun i hi=>?_);try dsimp only at hi)|intro _|fail)
  refine Qa (fun(i:Nat)=>⟨146,[(1,zL (intE m)),(2,zI n),(4,.ptr 4 0),(21,.row 110),(111,zL (intE L)),(112,zI (L.length:Nat)),(113,zI i)],[(4,.box 43 (We t)),(110,.row 3 (intE (outL t n m (L.take i))) true)]⟩) (fun i=>i<=L.length) (fun i=>L.length-i) 0 (by exact Xab _) ?_ ?_
  · exact zll
  intro i hi
  by_cases hil:i<L.length
  · have hst:=QhN (t:=t) (n:=n) (m:=m) hil
    have hsmi:=hsm i hil
    generalize hlf:nth L i=lf at hst hsmi
    generalize outL t n m (L.take i)=o at hst ⊢
    repeat'(first|(refine zhm fun hb=>?_;try exact zab)|refine zUtp ?_|refine zg2 ?_ ?_|intro _|fail)
    refine Qa (fun(j:Nat)=>⟨146,[(1,zL (intE m)),(2,zI n),(4,.ptr 4 0),(21,.row 110),(23,zI lf),(111,zL (intE L)),(112,zI (L.length:Nat)),(113,zI i),(117,zL (intE m)),(118,zI (m.length:Nat)),(119,zI j)],[(4,.box 43 (We t)),(110,.row 3 (intE (inL t n (m.take j) o lf)) true)]⟩) (fun j=>j<=m.length) (fun j=>m.length-j) 0 (by exact Xab _) ?_ ?_
    · refine⟨rfl,?_,?_,rfl⟩
      repeat'(first|exact ze3|refine ze2 ?_ ?_|refine ze4 ?_|exact ze5|fail)
      all_goals exact zp (by first|rfl|exact Qb _|rw[<-hlf])
    intro j hj
    by_cases hjl:j<m.length
    · have hin:=hmi j hjl
      obtain⟨h1,_,_⟩:=ht.nodes (nth m j).toNat (by omega)
      obtain⟨_,hnl⟩:=ht.leaf hmi hjl
      have hnat:nth m j=((nth m j).toNat:Int):=by omega
      have hst2:=Qry (t:=t) (n:=n) (lf:=lf) (o:=o) hjl
      unfold inS at hst2
      rw[<-hnl]at hst2
      generalize inL t n (m.take j) o lf=q at hst2 ⊢
      by_cases hq:(nth t.nodes (nth m j).toNat).leaf=lf/\(q.length:Int)<n
      · rw[if_pos hq]at hst2
        obtain⟨hq1,hq2⟩:=hq
        repeat'(first|(refine zhm fun hb=>?_;try exact zab)|refine zUtp ?_|refine zg2 ?_ ?_|intro _|fail)
        refine⟨j+1,by omega,by omega,?_⟩
        refine zag ?_;exact zp (by(rw[hst2];exact Jt _ _))
      · rw[if_neg hq]at hst2
        repeat'(first|(refine zhm fun hb=>?_;try exact zab)|refine zUtp ?_|refine zg2 ?_ ?_|intro _|fail)
        all_goals first
          | exact absurd ⟨by omega,by omega⟩ hq
          | (refine⟨j+1,by omega,by omega,?_⟩
             refine⟨rfl,?_,?_,rfl⟩
             repeat'(first|exact ze3|refine ze2 ?_ ?_|refine ze4 ?_|exact ze5|fail)
             all_goals exact zp (by first|rfl|rw[hst2]))
    · obtain rfl:j=m.length:=by omega
      rw[Xap]at *
      repeat'(first|(refine zhm fun hb=>?_;try exact zab)|refine zUtp ?_|refine zg2 ?_ ?_|intro _|fail)
      refine⟨i+1,by omega,by omega,?_⟩
      refine zag ?_;exact zp (by rw[hst])
  · obtain rfl:i=L.length:=by omega
    rw[Xap]at *
    have hol:(outL t n m L).length<=1000000:=by
      have h:=Qfe (t:=t) (m:=m) (n:=n) (by omega) L L.length (Xam _)
      rw[Xap]at h
      rw[h,Xai]
      omega
    have c6:=Qn3 (l:=outL t n m L) (d:=true) (by omega)
    have hol2:=J4 (outL t n m L)
    repeat'(first|(refine zhm fun hb=>?_;try exact zab)|refine zUrp ?_|refine zg2 ?_ ?_|(refine km [110] (c6) rfl rfl (fun i hi=>?_);try dsimp only at hi)|intro _|fail)
    show AWp _ _ _ _
    refine QD ?_
    apply Qt
    exact zm () [110] trivial zae zae zae
end
end Go.Proofs.YtihgfennoalocaaGreat
namespace Go.Proofs.YtihgfennoalocaaGreat
open Go Go.RowKit Go.Sort

theorem Qc7(n:Int):∀(l:List Int),(rise n l).Perm (n::l)
 | []=>Xbv _
 | x::l=>by
  unfold rise
  split
  ·exact Xbv _
  ·exact((Qc7 n l).cons x).trans (List.Perm.swap n x l)
theorem Qob(n:Int):∀(l:List Int),l.Pairwise (·<=·)->(rise n l).Pairwise (·<=·)
 | [],_=>by simp[rise]
 | x::l,h=>by
  unfold rise
  have h':=Xau.1 h
  split
  ·rename_i hn
   refine Xau.2 ⟨fun y hy=>?_,h⟩
   rcases Xaj.1 hy with rfl|hy
   ·omega
   ·have:=h'.1 y hy;omega
  ·rename_i hn
   refine Xau.2 ⟨fun y hy=>?_,Qob n l h'.2⟩
   rcases Xaj.1 ((Qc7 n l).mem_iff.1 hy)with rfl|hy
   ·omega
   ·exact h'.1 y hy
def insF(q:List Int):List Int:=q.foldl (fun o x=>rise x o) []
theorem Qpr:∀(q o:List Int),o.Pairwise (·<=·)->(q.foldl (fun o x=>rise x o) o).Pairwise (·<=·)/\(q.foldl (fun o x=>rise x o) o).Perm (o++q)
 | [],o,h=>⟨h,by rw[Xa2];exact Xbv _⟩
 | x::q,o,h=>by
  obtain⟨h1,h2⟩:=Qpr q (rise x o) (Qob x o h)
  refine⟨h1,h2.trans ?_⟩
  exact(((Qc7 x o).append_right q).trans (List.perm_middle (l₁:=o) (l₂:=q) (a:=x)).symm)
theorem Qkc(q:List Int):insF q=srtI q:=by
 obtain⟨h1,h2⟩:=Qpr q [] List.Pairwise.nil
 refine List.Perm.eq_of_pairwise (le:=(·<=·)) (fun a b _ _ h1 h2=>by omega) h1 (Qi8 q) (h2.trans ?_)
 rw[Xa5]
 exact(XbC q _).symm
theorem Qkf(q:List Int):(insF q).length=q.length:=by rw[Qkc,J4]
theorem QqL(q:List Int)(x:Int):insF (q++[x])=rise x (insF q):=by unfold insF;rw[XaQ];rfl
theorem QcR{n:Int}:∀(g q:List Int),(q.length:Int)<=n->Vt n (insF q) g=insF ((q++g).take n.toNat)
 | [],q,h=>by
  rw[Xa2,Xaz (by omega)]
  rfl
 | x::g,q,h=>by
  have e:Vt n (insF q) (x::g)=Vt n (if((insF q).length:Int)<n then rise x (insF q)else insF q) g:=rfl
  rw[e,Qkf]
  by_cases hq:(q.length:Int)<n
  ·rw[if_pos hq,<-QqL,QcR g _ (by simp;omega),Xaq]
   rfl
  ·rw[if_neg hq,QcR g q h]
   have e:n.toNat=q.length:=by omega
   rw[e]
   simp
theorem QjR{t:QW}{m tk:List Int}:∀(i s:Nat),s<i->cand t m tk s->cntU t m s<cntU t m (lfU t m tk i).toNat\/cntU t m s=cntU t m (lfU t m tk i).toNat/\lfU t m tk i<=s
 | 0,_,h,_=>absurd h (Xas _)
 | i+1,s,h,hc=>by
  have h1:=(Qoc (t:=t) (m:=m) (tk:=tk) i).2
  have h2:=(QkA (t:=t) (l:=m) (tk:=tk) i).2
  rw[Qrz]
  unfold lfS
  by_cases hs:s=i
  ·subst hs
   split
   ·exact .inr ⟨by simp,by simp⟩
   ·rename_i hn
    by_cases hb:lfU t m tk s<0
    ·exact absurd ⟨hc.1,hc.2.1,hc.2.2,.inl hb⟩ hn
    ·by_cases hb2:cntU t m (lfU t m tk s).toNat<cntU t m s
     ·exact absurd ⟨hc.1,hc.2.1,hc.2.2,.inr hb2⟩ hn
     ·omega
  ·have ih:=QjR i s (by omega) hc
   have h0:=h1 s (by omega) hc
   split
   ·rename_i hn
    have e:((i:Nat):Int).toNat=i:=by simp
    rw[e]
    omega
   ·exact ih
theorem QhD{t:QW}(ht:QY t){m:List Int}(hm:∀x∈m,Q2 t x<t.parents.length){s:Nat}(hs:Wa t.parents (s:Int)=true)(hl:s<t.parents.length):(cntU t m s:Int)=nth (cntC t m) s:=by
 rw[Qco hl]
 unfold cntU
 rw[Wj ht hm hs]
def ordM(t:QW)(m:List Int):List Int:=srtM (cntC t m) (lvL t m)
theorem QcA{t:QW}{m:List Int}{x:Int}:x∈ordM t m↔∃y∈m,(Q2 t y:Int)=x:=by rw[ordM,QkJ,Qjq]
theorem Qsm{t:QW}{m:List Int}:(ordM t m).Nodup:=((XbC _ _).nodup_iff).2 Quj
theorem QsA{t:QW}{m:List Int}:(ordM t m).Pairwise fun x y=>¬cfM (cntC t m) y x<0:=by
 have h:=Xcf (le:=fun x y=>!decide (cfM (cntC t m) y x<0)) (fun a b c h1 h2=>?_) (fun a b=>?_) (lvL t m)
 ·exact h.imp fun h=>by simpa using h
 ·have h1:¬cfM (cntC t m) b a<0:=by simpa using h1
  have h2:¬cfM (cntC t m) c b<0:=by simpa using h2
  have:¬cfM (cntC t m) c a<0:=by rw[XE]at *;omega
  simpa using this
 ·by_cases h:cfM (cntC t m) b a<0
  ·have:¬cfM (cntC t m) a b<0:=by rw[XE]at *;omega
   simp[this]
  ·simp[h]
theorem QsD{t:QW}(ht:QY t){m:List Int}(hm:∀x∈m,Q2 t x<t.parents.length/\Wa t.parents (Q2 t x:Int)=true){i:Nat}(hi:i<(ordM t m).length):lfI t m ((ordM t m).take i)=nth (ordM t m) i:=by
 have hm1:∀x∈m,Q2 t x<t.parents.length:=fun x hx=>(hm x hx).1
 have hin:nth (ordM t m) i∈ordM t m:=QO hi
 have hLi:nth (ordM t m) i=(ordM t m)[i]:=by simp[nth,hi]
 obtain⟨y,hy,hye⟩:=QcA.1 hin
 obtain⟨hy1,hy2⟩:=hm y hy
 have hnot:hasI ((ordM t m).take i) (nth (ordM t m) i)=false:=by
  cases hh:hasI ((ordM t m).take i) (nth (ordM t m) i) with
  | false=>rfl
  | true=>
   obtain⟨j,hj,e⟩:=Xba (Wn.1 hh)
   rw[Xai]at hj
   rw[List.getElem_take,hLi]at e
   exact absurd e (Xbm.1 (Qsm (t:=t) (m:=m)) j i (by omega) hi (by omega))
 have hc:cand t m ((ordM t m).take i) (Q2 t y):=by
  refine⟨?_,Qai.2 hy2,by rw[hye];exact hnot⟩
  unfold cntU
  rw[Wj ht hm1 hy2]
  exact Xbp.2 (List.ne_nil_of_mem (XaF.2 ⟨hy,by simp⟩))
 obtain⟨⟨g1,g2⟩,g3,g4,g5⟩:=QrT hy1 hc
 have hb:=QjR (t:=t) (m:=m) (tk:=(ordM t m).take i) t.parents.length (Q2 t y) hy1 hc
 rw[show lfU t m ((ordM t m).take i) t.parents.length=lfI t m ((ordM t m).take i) from rfl]at hb
 generalize lfI t m ((ordM t m).take i)=b at *
 have hbn:((b.toNat:Nat):Int)=b:=by omega
 rw[hbn]at g4 g5
 have hbl:=Qai.1 g4
 have hbm:b∈ordM t m:=by
  unfold cntU at g3
  rw[Wj ht hm1 (by rw[hbn];exact hbl)]at g3
  obtain⟨z,hz⟩:=List.exists_mem_of_length_pos g3
  obtain⟨hz1,hz2⟩:=XaF.1 hz
  exact QcA.2 ⟨z,hz1,by have:=of_decide_eq_true hz2;omega⟩
 obtain⟨j,hj,hjb⟩:=Xba hbm
 have hij:i<=j:=by
  refine Xcp fun hlt=>?_
  have:b∈(ordM t m).take i:=by
   rw[<-hjb]
   exact List.mem_take_iff_getElem.2 ⟨j,by omega,rfl⟩
  rw[Wn.2 this]at g5
  cases g5
 by_cases hje:i=j
 ·subst hje;rw[hLi];exact hjb.symm
 ·have hp:=Xbm.1 (QsA (t:=t) (m:=m)) i j hi hj (by omega)
  rw[hjb,<-hLi,XE]at hp
  have e1:=QhD ht hm1 (s:=b.toNat) (by rw[hbn];exact hbl) (by omega)
  have e2:=QhD ht hm1 hy2 hy1
  have e3:(nth (ordM t m) i).toNat=Q2 t y:=by omega
  rw[e3]at hp
  omega
theorem Qj0{t:QW}{m L:List Int}{i:Nat}(h:i<L.length):flM t m (L.take (i+1))=flM t m (L.take i)++m.filter fun x=>decide ((Q2 t x:Int)=nth L i):=by
 have e:nth L i=L[i]:=by simp[nth,h]
 rw[XaB h,flM,XbT,e]
 simp[flM]
theorem Qmq{t:QW}{m L:List Int}:∀(k i:Nat),i+k=L.length->∃r,flM t m L=flM t m (L.take i)++r
 | 0,i,h=>⟨[],by rw[Xaz (by omega),Xa2]⟩
 | k+1,i,h=>by
  obtain⟨r,hr⟩:=Qmq (t:=t) (m:=m) (L:=L) k (i+1) (by omega)
  rw[Qj0 (by omega),Xaq]at hr
  exact⟨_,hr⟩
theorem Qnh{t:QW}(ht:QY t){m:List Int}{n:Int}(hm:∀x∈m,Q2 t x<t.parents.length/\Wa t.parents (Q2 t x:Int)=true)(hn:n<=m.length)(hn0:0<=n):∀(f i:Nat),i<=(ordM t m).length->untk t ((ordM t m).take i)<f->ChJ t m n (insF ((flM t m ((ordM t m).take i)).take n.toNat)) ((ordM t m).take i)->
  chR t m n f (insF ((flM t m ((ordM t m).take i)).take n.toNat)) ((ordM t m).take i)=insF ((flM t m (ordM t m)).take n.toNat)
 | 0,_,_,h,_=>absurd h (Xas _)
 | f+1,i,hi,hf,hj=>by
  unfold chR
  have hlen:=Qkf ((flM t m ((ordM t m).take i)).take n.toNat)
  rw[Xai]at hlen
  split
  ·rename_i hl
   have hi':i<(ordM t m).length:=by
    refine Nat.lt_of_le_of_ne hi fun e=>?_
    obtain⟨x,hx,hh⟩:=Qnr (t:=t) (m:=m) (tk:=(ordM t m).take i) (by have:=hj.len;omega)
    have:(Q2 t x:Int)∈ordM t m:=QcA.2 ⟨x,hx,rfl⟩
    rw[e,Xap,Wn.2 this]at hh
    cases hh
   obtain⟨g1,g2,g3⟩:=Qkm ht hm hn hj hl
   have hlf:=QsD ht hm hi'
   rw[hlf]at g1 g2 g3 ⊢
   have htk:(ordM t m).take i++[nth (ordM t m) i]=(ordM t m).take (i+1):=by
    rw[XaB hi']
    simp[nth,hi']
   have hlv:Wa t.parents (nth (ordM t m) i)=true:=by
    obtain⟨y,hy,e⟩:=QcA.1 (QO hi')
    rw[<-e];exact(hm y hy).2
   have hun:Jk t m (nth (ordM t m) i)=m.filter fun x=>decide ((Q2 t x:Int)=nth (ordM t m) i):=by
    have e:((nth (ordM t m) i).toNat:Int)=nth (ordM t m) i:=by omega
    rw[<-e,Wj ht (fun x hx=>(hm x hx).1) (by rw[e];exact hlv)]
    refine Xb0 fun x _=>?_
    rw[Xan,decide_eq_true_eq,decide_eq_true_eq]
    omega
   have hout:Vt n (insF ((flM t m ((ordM t m).take i)).take n.toNat)) (Jk t m (nth (ordM t m) i))=insF ((flM t m ((ordM t m).take (i+1))).take n.toNat):=by
    rw[hun,Qj0 hi',QcR _ _ (by rw[Xai];omega),Xaz (l:=flM t m ((ordM t m).take i)) (by omega)]
   rw[htk,hout]at g2
   rw[htk]at g3 ⊢
   rw[hout]
   exact Qnh ht hm hn hn0 f (i+1) (by omega) (by omega) g2
  ·obtain⟨r,hr⟩:=Qmq (t:=t) (m:=m) (L:=ordM t m) ((ordM t m).length-i) i (by omega)
   rw[hr,Xa8 (by omega)]
theorem QkS{t:QW}(ht:QY t){m:List Int}{n:Int}(hm:∀x∈m,Q2 t x<t.parents.length/\Wa t.parents (Q2 t x:Int)=true)(hn:n<=m.length)(hn0:0<=n):choE t m n=chR t m n (t.parents.length+1) [] []:=by
 have h:=Qnh ht hm hn hn0 (t.parents.length+1) 0 (Nat.zero_le _) (by have:=Qjp t [];rw[List.take_zero];omega) ⟨by rw[List.take_zero,QrQ];simp[flM,insF];omega⟩
 rw[XbN]at h
 have e0:insF ((flM t m []).take n.toNat)=[]:=by simp[flM,insF]
 rw[e0]at h
 rw[h,Qkc]
 have e1:=Qfe (t:=t) (m:=m) hn0 (ordM t m) (ordM t m).length (Xam _)
 rw[Xap]at e1
 unfold choE
 rw[show srtM (cntC t m) (lvL t m)=ordM t m from rfl,e1]
theorem QlU{t:QW}{l r:List Int}{n most:Int}(ht:QY t)(hl:Jz t l)(hn:1<=n)(h:WR t l n most=some r):(r.length:Int)<=n:=by
 unfold WR at h
 split at h
 ·cases h
 ·have hok:=Qhw (t:=t) (l:=l) (n:=n) (most:=most) t.parents.length
  rw[show swU t l n most t.parents.length=swI t l n most from rfl]at hok
  have hcn:=hok (by omega)
  unfold cntU at hcn
  rw[show((swI t l n most).toNat:Int)=swI t l n most by omega]at hcn
  rw[<-QkS ht (Vl ht (WD hl)) hcn (by omega)]at h
  injection h with h
  subst h
  have e1:=Qfe (t:=t) (m:=Jk t l (swI t l n most)) (n:=n) (by omega) (srtM (cntC t (Jk t l (swI t l n most))) (lvL t (Jk t l (swI t l n most)))) _ (Xam _)
  rw[Xap]at e1
  unfold choE
  rw[J4,e1,Xai]
  omega
theorem Qq2{t:QW}{l:List Int}{n most:Int}(ht:QY t)(hl:Jz t l)(hn:1<=n)(hll:l.length<=100000):OR 287 [Yy t,zL (intE l),zI n,zI most] (WR t l n most):=by
 have h:=Qq8 (most:=most) ht hl hn hll
 unfold WR
 split
 ·rename_i hneg;rw[if_pos hneg]at h;exact h
 ·rename_i hneg
  rw[if_neg hneg]at h
  have hok:=Qhw (t:=t) (l:=l) (n:=n) (most:=most) t.parents.length
  rw[show swU t l n most t.parents.length=swI t l n most from rfl]at hok
  have hcn:=hok (by omega)
  unfold cntU at hcn
  rw[show((swI t l n most).toNat:Int)=swI t l n most by omega]at hcn
  rw[<-QkS ht (Vl ht (WD hl)) hcn (by omega)]
  exact h
end Go.Proofs.YtihgfennoalocaaGreat
