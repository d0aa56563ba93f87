/-
  Placement: what is free least, the program's; the nodes that will do; both.
-/
import Derived.Test.YtihgfennoalocaaGreatKB7
import Derived.Test.YtihgfennoalocaaGreatKB13
import Derived.Test.YtihgfennoalocaaGreatKB17
import Derived.Test.YtihgfennoalocaaGreatKB18
import Derived.Test.YtihgfennoalocaaGreatKB20
import Derived.Test.YtihgfennoalocaaGreatKB14
set_option maxRecDepth 100000
set_option maxHeartbeats 16000000
namespace Go.Proofs.YtihgfennoalocaaGreat
open Go Go.RowKit Tryz
section
attribute [local irreducible] AWp QJ OpOk ACalls ChA QsOk MCalls EnC PY

theorem QrU{l:List Pt}(h:Jp l):∀(k i:Nat),i+k+1<l.length->(nth l i).at'<(nth l (i+k+1)).at'
 | 0,i,hi=>(h.steps i hi).1
 | k+1,i,hi=>by
  have h1:=QrU h k i (by omega)
  have h2:=(h.steps (i+k+1) hi).1
  rw[show i+(k+1)+1=i+k+1+1 by omega]
  omega
theorem QoV{l:List Pt}(h:Jp l){i j:Nat}(hij:i<j)(hj:j<l.length):(nth l i).at'<(nth l j).at':=by
 have:=QrU h (j-i-1) i (by omega)
 rw[show i+(j-i-1)+1=j by omega]at this
 exact this
theorem Qj2{l:List Pt}(h:Jp l){i:Nat}(hi:i<l.length){a:Int}(ha:(nth l i).at'=a):∀(k:Nat),i+1+k<=l.length->JF (l.take (i+1+k)) a=(nth l i).free
 | 0,_=>by rw[XbI,Wg hi,if_pos (by omega)]
 | k+1,hk=>by
  have h1:=QoV h (i:=i) (j:=i+1+k) (by omega) (by omega)
  rw[<-XbD,Wg (by omega),if_neg (by omega)]
  exact Qj2 h hi ha k (by omega)
theorem QdU{l:List Pt}{a b:Int}{v:V3}:∀(i:Nat),i<=l.length->(∀j,j<i->(nth l j).at'<a)->ZZ (l.take i) a b v=v
 | 0,_,_=>by simp[ZZ]
 | i+1,hi,h=>by
  have:=h i (by omega)
  rw[WY (by omega),if_neg (by omega)]
  exact QdU i (by omega) fun j hj=>h j (by omega)
theorem QmG{v:V3}(h:Qh v=true):minO v v=v:=by
 rw[Qr7 h h]
 cases v
 simp[minV]
def QaS(l:List Pt)(a b:Int)(v0:V3):V3:=l.foldl (fun v x=>if a<x.at'/\x.at'<b then minO v x.free else v) v0
theorem QcO{l:List Pt}{i:Nat}(h:i<l.length)(a b:Int)(v0:V3):QaS (l.take (i+1)) a b v0=if a<(nth l i).at'/\(nth l i).at'<b then minO (QaS (l.take i) a b v0) (nth l i).free else QaS (l.take i) a b v0:=by
 rw[QI h,QaS,XaQ]
 rfl
theorem Qhv{l:List Pt}(h:Jp l){a b:Int}:∀(i:Nat),i<=l.length->QaS (l.take i) a b (JF l a)=ZZ (l.take i) a b (JF l a)
 | 0,_=>by simp[QaS,ZZ]
 | i+1,hi=>by
  have ih:=Qhv h (a:=a) (b:=b) i (by omega)
  rw[QcO (by omega),WY (by omega),ih]
  by_cases h1:a<(nth l i).at'/\(nth l i).at'<b
  ·rw[if_pos h1,if_pos ⟨by omega,by omega⟩]
  ·rw[if_neg h1]
   by_cases h2:a<=(nth l i).at'/\(nth l i).at'<b
   ·rw[if_pos h2]
    have e:(nth l i).at'=a:=by omega
    have hf:=Qj2 h (i:=i) (by omega) e (l.length-(i+1)) (by omega)
    rw[show i+1+(l.length-(i+1))=l.length by omega,Xap]at hf
    rw[QdU i (by omega) fun j hj=>by have:=QoV h hj (by omega);omega,hf,QmG (h.pts i (by omega)).2]
   ·rw[if_neg h2]
theorem Qpl{l:List Pt}{a b:Int}(h:Jp l):zAc 286 [XA l,zI a,zI b] [vecA (WV l a b)] []:=by
  refine zAC func286 fun w0 Z=>?_
  have hpl:=JD l
  have hln:=h.len
  repeat'(first|(refine zhm fun hb=>?_;try exact zab)|refine zUtp ?_|refine zg2 ?_ ?_|refine kc (QhQ (l:=l) (t:=a) (by omega)) rfl rfl ?_|intro _|fail)
  refine Qa (fun(i:Nat)=>⟨36,[(1,zI a),(2,zI b),(6,.ptr 6 0),(7,.ptr 7 0),(14,zL (ptE l)),(15,zI (l.length:Nat)),(16,zI i)],[(6,.box 44 (vecC zV)),(7,.box 44 (vecC (QaS (l.take i) a b (JF l a))))]⟩) (fun i=>i<=l.length) (fun i=>l.length-i) 0 (by exact Xab _) ?_ ?_
  · exact zll
  intro i hi
  by_cases hi':i<l.length
  · have hst:=QcO (a:=a) (b:=b) (v0:=JF l a) hi'
    by_cases hq:a<(nth l i).at'/\(nth l i).at'<b
    · rw[if_pos hq]at hst
      obtain⟨hq1,hq2⟩:=hq
      repeat'(first|(refine zhm fun hb=>?_;try exact zab)|refine zUtp ?_|refine zg2 ?_ ?_|refine kc (QqT (a:=QaS (l.take i) a b (JF l a)) (b:=(nth l i).free)) rfl rfl ?_|intro _|fail)
      refine⟨i+1,by omega,by omega,?_⟩
      refine⟨rfl,?_,?_,rfl⟩
      repeat'(first|exact ze3|refine ze2 ?_ ?_|refine ze4 ?_|exact ze5|fail)
      all_goals exact zp (by first|rfl|rw[hst])
    · rw[if_neg hq]at hst
      repeat'(first|(refine zhm fun hb=>?_;try exact zab)|refine zUtp ?_|refine zg2 ?_ ?_|intro _|fail)
      all_goals first
        | exact absurd ⟨by omega,by omega⟩ hq
        | (refine⟨i+1,by omega,by omega,?_⟩
           refine⟨rfl,?_,?_,rfl⟩
           repeat'(first|exact ze3|refine ze2 ?_ ?_|refine ze4 ?_|exact ze5|fail)
           all_goals exact zp (by first|rfl|rw[hst]))
  · have hfin:QaS (l.take i) a b (JF l a)=WV l a b:=by
      rw[Qhv h i hi,Xaz (by omega)]
      rfl
    repeat'(first|(refine zhm fun hb=>?_;try exact zab)|refine zUtp ?_|refine zg2 ?_ ?_|intro _|fail)
    refine zr [] ?_ ?_
    repeat'(first|exact ze3|refine ze2 ?_ ?_|refine ze4 ?_|exact ze5|fail)
    all_goals exact zp (by first|rfl|rw[hfin])
def elB(r:Jy)(need:V3)(a b:Int)(i:Nat):Bool:=nth r.up i&&V9 need (WV (nth r.profs i) a b)
def elU(r:Jy)(need:V3)(a b:Int)(i:Nat):List Int:=((List.range i).filter (elB r need a b)).map fun(i:Nat)=>(i:Int)
def QdQ(r:Jy)(need:V3)(a b:Int):List Int:=elU r need a b r.profs.length
theorem QuA(r:Jy)(need:V3)(a b:Int)(i:Nat):elU r need a b (i+1)=if elB r need a b i=true then elU r need a b i++[(i:Int)]else elU r need a b i:=by
 unfold elU
 rw[XbP,Xa9,XaI]
 split
 ·rename_i h;simp[h]
 ·rename_i h;simp[h]
theorem Qjb(r:Jy)(need:V3)(a b:Int)(i:Nat):(elU r need a b i).length<=i:=by
 unfold elU
 rw[Xah]
 exact Xao (Xa1 _ _) (by rw[List.length_range];exact Xam _)

theorem Qfs{r:Jy}{need:V3}{a b:Int}{i:Nat}:elB r need a b i=true↔nth r.up i=true/\V9 need (WV (nth r.profs i) a b)=true:=by unfold elB;rw[Xaf]
theorem QlP{r:Jy}{need:V3}{a b:Int}(h:Q5 r):DC Tryz.prog 288 [Y7 r,vecA need,zI a,zI b] [zL (intE (QdQ r need a b))]:=by
  refine zMC func288 fun w0 Z O=>?_
  have hs:=h.small
  have h1:=h.up
  have h2:=h.num
  have hpl:=Qy r.profs
  have hbl:=Qo r.up
  repeat'(first|(refine zhm fun hb=>?_;try exact zab)|refine Qe ?_|(apply zch;exact zcg)|exact zhk|refine zg3 ?_ ?_|intro _|fail)
  refine Qa (fun(i:Nat)=>⟨40,[(2,zI a),(3,zI b),(4,.ptr 4 0),(5,.ptr 5 0),(9,.row 12),(14,zL (QZ r.profs)),(15,zI (r.profs.length:Nat)),(16,zI i)],[(4,.box 209 (Qa9 r)),(5,.box 44 (vecC need)),(12,.row 3 (intE (elU r need a b i)) true)]⟩) (fun i=>i<=r.profs.length) (fun i=>r.profs.length-i) 0 (by exact Xab _) ?_ ?_
  · exact zll
  intro i hi
  have hel:=Qjb r need a b i
  by_cases hi':i<r.profs.length
  · have hst:=QuA r need a b i
    have c1:=Qpl (a:=a) (b:=b) (h.profs i hi')
    have c2:=Qii (a:=need) (b:=WV (nth r.profs i) a b)
    cases hE:elB r need a b i with
    | true=>
      rw[if_pos hE]at hst
      obtain⟨e1,e2⟩:=Qfs.1 hE
      rw[e2]at c2
      repeat'(first|(refine zhm fun hb=>?_;try exact zab)|refine Qe ?_|(apply zch;exact zcg)|exact zhk|refine zg3 ?_ ?_|intro _|fail)
      all_goals first
        | (rw[e1]at hb;cases hb;done)
        | (refine⟨i+1,by omega,by omega,?_⟩
           refine⟨rfl,?_,?_,rfl⟩
           repeat'(first|exact ze3|refine ze2 ?_ ?_|refine ze4 ?_|exact ze5|fail)
           all_goals exact zp (by first|rfl|(rw[hst];exact Jt _ _)))
    | false=>
      rw[if_neg (by rw[hE];simp)]at hst
      cases e2:V9 need (WV (nth r.profs i) a b) with
      | true=>
        rw[e2]at c2
        repeat'(first|(refine zhm fun hb=>?_;try exact zab)|refine Qe ?_|(apply zch;exact zcg)|exact zhk|refine zg3 ?_ ?_|intro _|fail)
        all_goals first
          | (have:=Qfs.2 ⟨hb,e2⟩;rw[hE]at this;cases this;done)
          | (refine⟨i+1,by omega,by omega,?_⟩
             refine⟨rfl,?_,?_,rfl⟩
             repeat'(first|exact ze3|refine ze2 ?_ ?_|refine ze4 ?_|exact ze5|fail)
             all_goals exact zp (by first|rfl|rw[hst]))
      | false=>
        rw[e2]at c2
        repeat'(first|(refine zhm fun hb=>?_;try exact zab)|refine Qe ?_|(apply zch;exact zcg)|exact zhk|refine zg3 ?_ ?_|intro _|fail)
        all_goals
          refine⟨i+1,by omega,by omega,?_⟩
          refine zag ?_;exact zp (by rw[hst])
  · obtain rfl:i=r.profs.length:=by omega
    repeat'(first|(refine zhm fun hb=>?_;try exact zab)|refine Q7 ?_|(apply zch;exact zcg)|exact zhk|refine zg3 ?_ ?_|intro _|fail)
    show AWp _ _ _ _
    refine Qs 12 rfl ?_
    exact zDR
theorem Qlq{r:Jy}{need:V3}{a b:Int}(h:Q5 r)(hs:VE a b=true):DC Tryz.prog 317 [Y7 r,vecA need,zI a,zI b] [zL (intE (QdQ r need a b))]:=by
  refine zMC func317 fun w0 Z O=>?_
  have hs':=h.small
  have h1:=h.up
  have h2:=h.num
  have hpl:=Qy r.profs
  have hbl:=Qo r.up
  have c0:=Qcm h
  repeat'(first|(refine zhm fun hb=>?_;try exact zab)|refine zUtp ?_|refine zg2 ?_ ?_|intro _|fail)
  refine Qa (fun(i:Nat)=>⟨54,[(2,zI a),(3,zI b),(4,.ptr 4 0),(5,.ptr 5 0),(9,.row 13),(20,zI (r.profs.length:Nat)),(21,zI i)],[(4,.box 209 (Qa9 r)),(5,.box 44 (vecC need)),(13,.row 3 (intE (elU r need a b i)) true)]⟩) (fun i=>i<=r.profs.length) (fun i=>r.profs.length-i) 0 (by exact Xab _) ?_ ?_
  · exact zll
  intro i hi
  have hel:=Qjb r need a b i
  by_cases hi':i<r.profs.length
  · have hst:=QuA r need a b i
    have hp:=h.profs i hi'
    have hpn:=hp.len
    have c1:=Qdt (l:=nth r.profs i) (a:=a) (b:=b) (by omega)
    rw[JK.2 hp,hs,Bool.and_self]at c1
    have c2:=QdB (a:=need) (b:=WV (nth r.profs i) a b)
    cases hE:elB r need a b i with
    | true=>
      rw[if_pos hE]at hst
      obtain⟨e1,e2⟩:=Qfs.1 hE
      rw[e2]at c2
      repeat'(first|(refine zhm fun hb=>?_;try exact zab)|refine zUtp ?_|refine zg2 ?_ ?_|intro _|fail)
      all_goals first
        | (rw[e1]at hb;cases hb;done)
        | (refine⟨i+1,by omega,by omega,?_⟩
           refine⟨rfl,?_,?_,rfl⟩
           repeat'(first|exact ze3|refine ze2 ?_ ?_|refine ze4 ?_|exact ze5|fail)
           all_goals exact zp (by first|rfl|(rw[hst];exact Jt _ _)))
    | false=>
      rw[if_neg (by rw[hE];simp)]at hst
      cases e2:V9 need (WV (nth r.profs i) a b) with
      | true=>
        rw[e2]at c2
        repeat'(first|(refine zhm fun hb=>?_;try exact zab)|refine zUtp ?_|refine zg2 ?_ ?_|intro _|fail)
        all_goals first
          | (have:=Qfs.2 ⟨hb,e2⟩;rw[hE]at this;cases this;done)
          | (refine⟨i+1,by omega,by omega,?_⟩
             refine⟨rfl,?_,?_,rfl⟩
             repeat'(first|exact ze3|refine ze2 ?_ ?_|refine ze4 ?_|exact ze5|fail)
             all_goals exact zp (by first|rfl|rw[hst]))
      | false=>
        rw[e2]at c2
        repeat'(first|(refine zhm fun hb=>?_;try exact zab)|refine zUtp ?_|refine zg2 ?_ ?_|intro _|fail)
        all_goals
          refine⟨i+1,by omega,by omega,?_⟩
          refine zag ?_;exact zp (by rw[hst])
  · obtain rfl:i=r.profs.length:=by omega
    repeat'(first|(refine zhm fun hb=>?_;try exact zab)|refine zUrp ?_|refine zg2 ?_ ?_|intro _|fail)
    show AWp _ _ _ _
    refine Qs 13 rfl ?_
    exact zDR

theorem QtD{r:Jy}{need:V3}{a b:Int}(i:Nat):risI (elU r need a b i):=by
 unfold risI elU
 rw[Xbg]
 exact(List.pairwise_lt_range.filter _).imp fun h=>by omega
theorem Qpn{r:Jy}{need:V3}{a b:Int}{x:Int}(h:x∈QdQ r need a b):0<=x/\x<r.profs.length:=by
 obtain⟨i,hi,rfl⟩:=Xad.1 h
 have:=Xb4.1 (XaF.1 hi).1
 omega
theorem QfI{r:Jy}(h:Q5 r){need:V3}{a b:Int}:Jz r.topo (QdQ r need a b):=XV.2 fun x hx=>by
 have:=Qpn hx
 have:=h.num
 omega
theorem Qm0{r:Jy}{need:V3}{a b:Int}:ascP (QdQ r need a b):=fun j hj=>by
 have h:=Xbm.1 (QtD (r:=r) (need:=need) (a:=a) (b:=b) r.profs.length) j (j+1) (by show j<(QdQ r need a b).length;omega) hj (by omega)
 rw[Ja (by omega),Ja hj]
 exact h
theorem Qg3{r:Jy}{need:V3}{a b:Int}:(QdQ r need a b).length<=r.profs.length:=Qjb _ _ _ _ _
def tmS(a:Int)(out:List Int)(x:Int):List Int:=if a<x/\hasI out x=false then rise x out else out
def tmP(a:Int)(out:List Int)(p:List Pt):List Int:=p.foldl (fun o x=>tmS a o x.at') out
def tmL(a:Int)(ps:List (List Pt)):List Int:=ps.foldl (tmP a) [a]
theorem QpB{a:Int}{out:List Int}{p:List Pt}{i:Nat}(h:i<p.length):tmP a out (p.take (i+1))=tmS a (tmP a out (p.take i)) (nth p i).at':=by
 rw[QI h,tmP,XaQ]
 rfl
theorem Qkp{a:Int}{ps:List (List Pt)}{i:Nat}(h:i<ps.length):tmL a (ps.take (i+1))=tmP a (tmL a (ps.take i)) (nth ps i):=by
 rw[QI h,tmL,XaQ]
 rfl
theorem Qi7{a:Int}:∀(p:List Pt) (out:List Int),(tmP a out p).length<=out.length+p.length
 | [],out=>Xam _
 | x::p,out=>by
  have h:=Qi7 (a:=a) p (tmS a out x.at')
  have h2:(tmS a out x.at').length<=out.length+1:=by
   unfold tmS
   split
   ·rw[Qct];exact Xam _
   ·omega
  show(tmP a (tmS a out x.at') p).length<=_
  rw[Xar]
  omega
theorem Qi4{a:Int}{ps:List (List Pt)}(h:∀p∈ps,p.length<=200):∀(i:Nat),i<=ps.length->(tmL a (ps.take i)).length<=1+200*i
 | 0,_=>by simp[tmL]
 | i+1,hi=>by
  have h1:=Qi4 (a:=a) h i (by omega)
  have h2:=h _ (QO (show i<ps.length by omega))
  rw[Qkp (by omega)]
  have:=Qi7 (a:=a) (nth ps i) (tmL a (ps.take i))
  omega
theorem Qgn{n x:Int}:∀{l:List Int},x∈rise n l↔x=n\/x∈l
 | []=>by simp[rise]
 | y::l=>by
  unfold rise
  split
  ·simp
  ·rw[Xaj,Qgn (l:=l),Xaj]
   constructor
   ·rintro (h|h|h)
    ·exact .inr (.inl h)
    ·exact .inl h
    ·exact .inr (.inr h)
   ·rintro (h|h|h)
    ·exact .inr (.inl h)
    ·exact .inl h
    ·exact .inr (.inr h)
theorem Qjy{n:Int}:∀{l:List Int},risI l->n∉l->risI (rise n l)
 | [],_,_=>by simp[rise,risI]
 | y::l,h,hn=>by
  unfold risI at h
  have h':=Xau.1 h
  have hy:n≠y:=fun e=>hn (e▸Xaa)
  unfold rise
  split
  ·rename_i hlt
   refine Xau.2 ⟨fun z hz=>?_,h⟩
   rcases Xaj.1 hz with rfl|hz
   ·omega
   ·have:=h'.1 z hz;omega
  ·rename_i hlt
   refine Xau.2 ⟨fun z hz=>?_,Qjy h'.2 fun e=>hn (Xae _ e)⟩
   rcases Qgn.1 hz with rfl|hz
   ·omega
   ·exact h'.1 z hz
theorem QtA{a x:Int}{out:List Int}(h:risI out):risI (tmS a out x)/\∀y,y∈tmS a out x↔y∈out\/a<x/\y=x:=by
 unfold tmS
 split
 ·rename_i hc
  have hn:x∉out:=fun e=>by rw[Wn.2 e]at hc;cases hc.2
  refine⟨Qjy h hn,fun y=>?_⟩
  rw[Qgn]
  exact⟨fun e=>e.elim (fun e=>.inr ⟨hc.1,e⟩) .inl,fun e=>e.elim .inr fun e=>.inl e.2⟩
 ·rename_i hc
  refine⟨h,fun y=>⟨.inl,fun e=>e.elim id fun e=>?_⟩⟩
  cases hh:hasI out x with
  | true=>rw[e.2];exact Wn.1 hh
  | false=>exact absurd ⟨e.1,hh⟩ hc
theorem QmM{a:Int}:∀{p:List Pt} {out:List Int},risI out->risI (tmP a out p)/\∀y,y∈tmP a out p↔y∈out\/∃x∈p,a<x.at'/\y=x.at'
 | [],out,h=>⟨h,fun y=>by simp[tmP]⟩
 | x::p,out,h=>by
  obtain⟨h1,h2⟩:=QtA (a:=a) (x:=x.at') h
  obtain⟨h3,h4⟩:=QmM (a:=a) (p:=p) h1
  refine⟨h3,fun y=>?_⟩
  rw[show tmP a out (x::p)=tmP a (tmS a out x.at') p from rfl,h4,h2]
  constructor
  ·rintro ((h|h)|⟨z,hz,h⟩)
   ·exact .inl h
   ·exact .inr ⟨x,Xaa,h⟩
   ·exact .inr ⟨z,Xae _ hz,h⟩
  ·rintro (h|⟨z,hz,h⟩)
   ·exact .inl (.inl h)
   ·rcases Xaj.1 hz with rfl|hz
    ·exact .inl (.inr h)
    ·exact .inr ⟨z,hz,h⟩
theorem Qni{a:Int}:∀{ps:List (List Pt)} {out:List Int},risI out->risI (ps.foldl (tmP a) out)/\∀y,y∈ps.foldl (tmP a) out↔y∈out\/∃p∈ps,∃x∈p,a<x.at'/\y=x.at'
 | [],out,h=>⟨h,fun y=>by simp⟩
 | p::ps,out,h=>by
  obtain⟨h1,h2⟩:=QmM (a:=a) (p:=p) h
  obtain⟨h3,h4⟩:=Qni (a:=a) (ps:=ps) h1
  refine⟨h3,fun y=>?_⟩
  rw[Xbj,h4,h2]
  constructor
  ·rintro ((h|h)|⟨z,hz,h⟩)
   ·exact .inl h
   ·exact .inr ⟨p,Xaa,h⟩
   ·exact .inr ⟨z,Xae _ hz,h⟩
  ·rintro (h|⟨z,hz,h⟩)
   ·exact .inl (.inl h)
   ·rcases Xaj.1 hz with rfl|hz
    ·exact .inl (.inr h)
    ·exact .inr ⟨z,hz,h⟩
def timR(r:Jy)(a:Int):List Int:=tmL a (r.profs++[r.lics])
theorem QfS(r:Jy)(a:Int):risI (timR r a)/\∀y,y∈timR r a↔y=a\/∃p∈r.profs++[r.lics],∃x∈p,a<x.at'/\y=x.at':=by
 obtain⟨h1,h2⟩:=Qni (a:=a) (ps:=r.profs++[r.lics]) (out:=[a]) (by simp[risI])
 exact⟨h1,fun y=>by rw[show timR r a=(r.profs++[r.lics]).foldl (tmP a) [a] from rfl,h2,XaM]⟩
theorem Q5.parts{r:Jy}(h:Q5 r):∀p∈r.profs++[r.lics],Jp p:=fun p hp=>by
 rcases Xag.1 hp with hp|hp
 ·obtain⟨j,hj,rfl⟩:=J1 hp
  exact h.profs j hj
 ·rw[XaM.1 hp];exact h.lics
theorem QiU{r:Jy}(h:Q5 r){a:Int}(ha:0<=a/\a<=1000000000):∀y∈timR r a,a<=y/\y<=1000000000:=fun y hy=>by
 rcases((QfS r a).2 y).1 hy with rfl|⟨p,hp,x,hx,h1,rfl⟩
 ·omega
 ·obtain⟨j,hj,rfl⟩:=J1 hx
  have:=((h.parts p hp).pts j hj).1
  omega
theorem QjI{r:Jy}(h:Q5 r)(a:Int):(timR r a).length<=10000:=by
 have hs:=h.small
 have h1:=Qi4 (a:=a) (fun p hp=>(h.parts p hp).len.2) (r.profs++[r.lics]).length (Xam _)
 rw[Xap]at h1
 have h2:(r.profs++[r.lics]).length<=25:=by rw[Xac,XaG];omega
 show(tmL a _).length<=_
 omega
def canO(r:Jy)(j:Job)(t:Int):Option (List Int):=if t+j.wall<=1000000000/\V9 j.lic (WV r.lics t (t+j.wall))=true then WR r.topo (QdQ r j.need t (t+j.wall)) j.nodes j.level else none
def Qav(r:Jy)(j:Job):List Int->Option (Int×List Int)
 | []=>none
 | t::ts=>match canO r j t with
  | some l=>some (t,l)
  | none=>Qav r j ts
def earO(r:Jy)(j:Job)(a:Int):Option (Int×List Int):=Qav r j (timR r a)
@[reducible] def earA (o:Option (Int×List Int)):List AV:=[zI ((o.map Prod.fst).getD 0),zL (intE ((o.map Prod.snd).getD [])),.d (.b o.isSome)]
theorem Qc2{l:List Int}{i:Nat}(h:i<l.length):l.drop i=nth l i::l.drop (i+1):=by rw[Ja h];exact Xa4 h
theorem QeA(l:List (List Pt))(p:List Pt):QZ l++[[.sl (ptE p)]]=QZ (l++[p]):=by simp[QZ]
theorem Ql4{r:Jy}{a:Int}(h:Q5 r):DC Tryz.prog 295 [Y7 r,zI a] [zL (intE (timR r a))]:=by
 refine zMC func295 fun w0 Z O=>?_
 have hs:=h.small
 have hpl:=Qy r.profs
 have hpl2:=Qy (r.profs++[r.lics])
 have hal:(r.profs++[r.lics]).length=r.profs.length+1:=by simp
 have hpr:=h.parts
 unfold timR
 repeat'(first|(refine zhm fun hb=>?_;try exact zab)|(refine Qi 2 11 rfl ?_)|refine Qe ?_|(apply zch;exact zcg)|exact zhk|refine zg3 ?_ ?_|intro _|fail)
 refine Qs 12 rfl ?_
 generalize hps:r.profs++[r.lics]=ps at *
 refine Qa (fun(i:Nat)=>⟨50,[(1,zI a),(5,zL (intE (tmL a (ps.take i)))),(19,zL (QZ ps)),(20,zI (ps.length:Nat)),(21,zI i)],[]⟩) (fun i=>i<=ps.length) (fun i=>ps.length-i) 0 (by exact Xab _) ?_ ?_
 ·refine⟨rfl,?_,?_,rfl⟩
  repeat'(first|exact ze3|refine ze2 ?_ ?_|refine ze4 ?_|exact ze5|fail)
  all_goals exact zp (by first|rfl|(rw[Xa5,QeA,hps,hpl2])|(rw[Xa5,QeA,hps]))
 intro i hi
 have htl:=Qi4 (a:=a) (fun p hp=>(hpr p hp).len.2) i hi
 by_cases hi':i<ps.length
 ·have hst:=Qkp (a:=a) hi'
  have hp:=hpr _ (QO hi')
  have hpn:=hp.len
  generalize hpe:nth ps i=p at hst hp hpn
  have hpl3:=JD p
  generalize tmL a (ps.take i)=o at hst htl ⊢
  repeat'(first|(refine zhm fun hb=>?_;try exact zab)|refine Qe ?_|(apply zch;exact zcg)|exact zhk|refine zg3 ?_ ?_|intro _|fail)
  refine Qa (fun(k:Nat)=>⟨50,[(1,zI a),(5,zL (intE (tmP a o (p.take k)))),(19,zL (QZ ps)),(20,zI (ps.length:Nat)),(21,zI i),(26,zL (ptE p)),(27,zI (p.length:Nat)),(28,zI k)],[]⟩) (fun k=>k<=p.length) (fun k=>p.length-k) 0 (by exact Xab _) ?_ ?_
  ·refine⟨rfl,?_,?_,rfl⟩
   repeat'(first|exact ze3|refine ze2 ?_ ?_|refine ze4 ?_|exact ze5|fail)
   all_goals exact zp (by first|rfl|exact hpl3|rw[<-hpe]|(rw[hpe];exact hpl3))
  intro k hk
  have htp:=Qi7 (a:=a) (p.take k) o
  rw[Xai]at htp
  by_cases hk':k<p.length
  ·have hst2:=QpB (a:=a) (out:=o) hk'
   have hpk:=(hp.pts k hk').1
   generalize tmP a o (p.take k)=q at hst2 htp ⊢
   unfold tmS at hst2
   have c1:=Wp (l:=q) (x:=(nth p k).at') (by omega)
   cases hh:hasI q (nth p k).at' with
   | true=>
    rw[hh]at c1
    rw[hh,if_neg (fun e=>by cases e.2)]at hst2
    repeat'(first|(refine zhm fun hb=>?_;try exact zab)|refine Qe ?_|(apply zch;exact zcg)|exact zhk|refine zg3 ?_ ?_|intro _|fail)
    all_goals
     refine⟨k+1,by omega,by omega,?_⟩
     refine zag ?_;exact zp (by rw[hst2])
   | false=>
    rw[hh]at c1
    rw[hh]at hst2
    repeat'(first|(refine zhm fun hb=>?_;try exact zab)|refine Qe ?_|(apply zch;exact zcg)|exact zhk|refine zg3 ?_ ?_|(refine km [] (QgE (l:=q) (n:=(nth p k).at') (by omega)) rfl rfl (fun i hi=>?_);try dsimp only at hi)|intro _|fail)
    ·rw[if_pos ⟨by assumption,rfl⟩]at hst2
     refine⟨k+1,by omega,by omega,?_⟩
     refine zag ?_;exact zp (by rw[hst2])
    ·rw[if_neg (fun e=>by have:=e.1;omega)]at hst2
     refine⟨k+1,by omega,by omega,?_⟩
     refine zag ?_;exact zp (by rw[hst2])
  ·obtain rfl:k=p.length:=by omega
   rw[Xap]at *
   repeat'(first|(refine zhm fun hb=>?_;try exact zab)|refine Qe ?_|(apply zch;exact zcg)|exact zhk|refine zg3 ?_ ?_|intro _|fail)
   refine⟨i+1,by omega,by omega,?_⟩
   refine zag ?_;exact zp (by rw[hst])
 ·obtain rfl:i=ps.length:=by omega
  rw[Xap]at *
  repeat'(first|(refine zhm fun hb=>?_;try exact zab)|refine Q7 ?_|(apply zch;exact zcg)|exact zhk|refine zg3 ?_ ?_|intro _|fail)
  exact zDR

theorem Qrd{r:Jy}{j:Job}{t:Int}(h:Q5 r)(hj:Qu j=true)(ht:0<=t/\t<=1000000000):DC Tryz.prog 296 [Y7 r,jobA j,zI t] (optI (canO r j t)):=by
 refine zMC func296 fun w0 Z O=>?_
 have hs:=h.small
 obtain⟨j1,j2⟩:=YA hj
 have hln:=h.lics.len
 have c1:=Qdt (l:=r.lics) (a:=t) (b:=t+j.wall) (by omega)
 rw[JK.2 h.lics,Xbx]at c1
 have c2:=QdB (a:=j.lic) (b:=WV r.lics t (t+j.wall))
 by_cases hw:t+j.wall<=1000000000
 ·have hsp:VE t (t+j.wall)=true:=W5.2 ⟨by omega,by omega,by omega⟩
  rw[hsp]at c1
  cases hf:V9 j.lic (WV r.lics t (t+j.wall)) with
  | false=>
   rw[hf]at c2
   rw[show canO r j t=none from if_neg (fun e=>by rw[hf]at e;cases e.2)]
   repeat'(first|(refine zhm fun hb=>?_;try exact zab)|refine Qfn ?_|(apply zch;exact zcg)|exact zhk|refine zg3 ?_ ?_|intro _|fail)
   exact zDR
  | true=>
   rw[hf]at c2
   rw[show canO r j t=WR r.topo (QdQ r j.need t (t+j.wall)) j.nodes j.level from if_pos ⟨hw,hf⟩]
   have hel:=Qg3 (r:=r) (need:=j.need) (a:=t) (b:=t+j.wall)
   have c3:=Qlq (need:=j.need) h hsp
   have c4:=QqJ (most:=j.level) h.topo (QfI h (need:=j.need) (a:=t) (b:=t+j.wall)) Qm0 j1.1 (by omega)
   repeat'(first|(apply QB 4;kernel_rfl;exact rfl)|(refine zhm fun hb=>?_;try exact zab)|refine Qfn ?_|(apply zch;exact zcg)|exact zhk|refine zg3 ?_ ?_|refine kmu c3 ?_|refine kmu c4 ?_|intro _|fail)
   exact zDR
 ·rw[show canO r j t=none from if_neg (fun e=>hw e.1)]
  have hsp:VE t (t+j.wall)=false:=by
   cases e:VE t (t+j.wall) with
   | false=>rfl
   | true=>have:=W5.1 e;omega
  rw[hsp]at c1
  repeat'(first|(refine zhm fun hb=>?_;try exact zab)|refine Qfn ?_|(apply zch;exact zcg)|exact zhk|refine zg3 ?_ ?_|intro _|fail)
  exact zDR
theorem Qbj{r:Jy}{j:Job}{a:Int}(h:Q5 r)(hj:Qu j=true)(ha:0<=a/\a<=1000000000):DC Tryz.prog 269 [Y7 r,jobA j,zI a] (earA (earO r j a)):=by
 refine zMC func269 fun w0 Z O=>?_
 have c0:=Qcm h
 have c1:=QcT (j:=j)
 rw[hj]at c1
 have c2:=Y1 (x:=a)
 rw[show inB a 0 1000000000=true from Yr.mpr ha]at c2
 have htl:=QjI h a
 have hti:=QiU h ha
 have c3:=Ql4 (a:=a) h
 unfold earO
 generalize timR r a=ts at *
 have hle:=Qb ts
 repeat'(first|(refine zhm fun hb=>?_;try exact zab)|refine zUtp ?_|refine zg2 ?_ ?_|refine kmu c3 ?_|intro _|fail)
 refine Qa (fun(i:Nat)=>⟨45,[(3,.ptr 3 0),(4,.ptr 4 0),(28,zL (intE ts)),(29,zI (ts.length:Nat)),(30,zI i)],[(3,.box 209 (Qa9 r)),(4,.box 72 ((jobD j).map AV.d))]⟩) (fun i=>i<=ts.length/\Qav r j (ts.drop i)=Qav r j ts) (fun i=>ts.length-i) 0 (by exact⟨Xab _,rfl⟩) ?_ ?_
 ·exact zll
 rintro k ⟨hk,hg⟩
 by_cases hk':k<ts.length
 ·have htm:=hti _ (QO hk')
  rw[Qc2 hk',Qav]at hg
  have c4:=Qrd (t:=nth ts k) h hj (by omega)
  cases hc:canO r j (nth ts k) with
  | none=>
   rw[hc]at hg c4
   dsimp only at hg
   repeat'(first|(refine zhm fun hb=>?_;try exact zab)|refine zUtp ?_|refine zg2 ?_ ?_|refine kmu c4 ?_|intro _|fail)
   refine⟨k+1,⟨by omega,hg⟩,by omega,?_⟩
   exact zll
  | some l=>
   rw[hc]at hg c4
   dsimp only at hg
   rw[<-hg]
   repeat'(first|(refine zhm fun hb=>?_;try exact zab)|refine zUrp ?_|refine zg2 ?_ ?_|refine kmu c4 ?_|intro _|fail)
   exact zDR
 ·rw[Xa7 (by omega),Qav]at hg
  rw[<-hg]
  repeat'(first|(refine zhm fun hb=>?_;try exact zab)|refine zUrp ?_|refine zg2 ?_ ?_|intro _|fail)
  exact zDR

def tnP(a:Int)(out:List Int)(p:List Pt):List Int:=p.foldl (fun o x=>if a<x.at' then o++[x.at']else o) out
def tnL(a:Int)(ps:List (List Pt)):List Int:=ps.foldl (tnP a) [a]
theorem QqY{a:Int}{out:List Int}{p:List Pt}{i:Nat}(h:i<p.length):tnP a out (p.take (i+1))=if a<(nth p i).at' then tnP a out (p.take i)++[(nth p i).at']else tnP a out (p.take i):=by
 rw[QI h,tnP,XaQ]
 rfl
theorem QjX{a:Int}{ps:List (List Pt)}{i:Nat}(h:i<ps.length):tnL a (ps.take (i+1))=tnP a (tnL a (ps.take i)) (nth ps i):=by
 rw[QI h,tnL,XaQ]
 rfl
theorem Qi5{a:Int}:∀(p:List Pt) (out:List Int),(tnP a out p).length<=out.length+p.length
 | [],out=>Xam _
 | x::p,out=>by
  have h:=Qi5 (a:=a) p (if a<x.at' then out++[x.at']else out)
  have h2:(if a<x.at' then out++[x.at']else out).length<=out.length+1:=by
   split
   ·simp
   ·omega
  show(tnP a (if a<x.at' then out++[x.at']else out) p).length<=_
  rw[Xar]
  omega
theorem Qpj{a:Int}{ps:List (List Pt)}(h:∀p∈ps,p.length<=200):∀(i:Nat),i<=ps.length->(tnL a (ps.take i)).length<=1+200*i
 | 0,_=>by simp[tnL]
 | i+1,hi=>by
  have h1:=Qpj (a:=a) h i (by omega)
  have h2:=h _ (QO (show i<ps.length by omega))
  rw[QjX (by omega)]
  have:=Qi5 (a:=a) (nth ps i) (tnL a (ps.take i))
  omega
theorem QoR{a y:Int}:∀{p:List Pt} {out:List Int},y∈tnP a out p↔y∈out\/∃x∈p,a<x.at'/\y=x.at'
 | [],out=>by simp[tnP]
 | x::p,out=>by
  rw[show tnP a out (x::p)=tnP a (if a<x.at' then out++[x.at']else out) p from rfl,QoR]
  have h2:y∈(if a<x.at' then out++[x.at']else out)↔y∈out\/a<x.at'/\y=x.at':=by
   split
   ·rename_i h;simp[h]
   ·rename_i h;simp[h]
  rw[h2]
  constructor
  ·rintro ((h|h)|⟨z,hz,h⟩)
   ·exact .inl h
   ·exact .inr ⟨x,Xaa,h⟩
   ·exact .inr ⟨z,Xae _ hz,h⟩
  ·rintro (h|⟨z,hz,h⟩)
   ·exact .inl (.inl h)
   ·rcases Xaj.1 hz with rfl|hz
    ·exact .inl (.inr h)
    ·exact .inr ⟨z,hz,h⟩
theorem Qmn{a y:Int}:∀{ps:List (List Pt)} {out:List Int},y∈ps.foldl (tnP a) out↔y∈out\/∃p∈ps,∃x∈p,a<x.at'/\y=x.at'
 | [],out=>by simp
 | p::ps,out=>by
  rw[Xbj,Qmn,QoR]
  constructor
  ·rintro ((h|h)|⟨z,hz,h⟩)
   ·exact .inl h
   ·exact .inr ⟨p,Xaa,h⟩
   ·exact .inr ⟨z,Xae _ hz,h⟩
  ·rintro (h|⟨z,hz,h⟩)
   ·exact .inl (.inl h)
   ·rcases Xaj.1 hz with rfl|hz
    ·exact .inl (.inr h)
    ·exact .inr ⟨z,hz,h⟩
theorem Qtj(r:Jy)(a:Int):cmpL (srtI (tnL a ([r.lics]++r.profs)))=timR r a:=by
 obtain⟨h1,h2⟩:=QfS r a
 obtain⟨h3,h4⟩:=Qj5 (Qi8 (tnL a ([r.lics]++r.profs)))
 refine Qbq h3 h1 fun y=>?_
 rw[h4,QkF,h2,show tnL a ([r.lics]++r.profs)=([r.lics]++r.profs).foldl (tnP a) [a] from rfl,Qmn,XaM]
 refine or_congr_right ⟨?_,?_⟩
 ·rintro ⟨p,hp,h⟩
  exact⟨p,by rcases Xag.1 hp with hp|hp <;> simp_all,h⟩
 ·rintro ⟨p,hp,h⟩
  exact⟨p,by rcases Xag.1 hp with hp|hp <;> simp_all,h⟩
theorem QeD{r:Jy}{j:Job}:∀{ts:List Int},(∀t∈ts,canO r j t=none)->Qav r j ts=none
 | [],_=>rfl
 | t::ts,h=>by
  rw[Qav,h t Xaa]
  exact QeD fun t ht=>h t (Xae _ ht)
theorem Qs5{ts:List Int}(h:risI ts){k:Nat}(hk:k<ts.length):∀t∈ts.drop k,nth ts k<=t:=fun t ht=>by
 obtain⟨i,hi,rfl⟩:=Xba ht
 rw[List.getElem_drop,Ja hk]
 rw[XaN]at hi
 by_cases e:i=0
 ·subst e;simp
 ·have:=Xbm.1 h k (k+i) hk (by omega) (by omega)
  omega
theorem QdG(l:List (List Pt))(p:List Pt):[[.sl (ptE p)]]++QZ l=QZ ([p]++l):=by simp[QZ]
@[reducible] def earR (o:Option (Int×List Int)):List AV:=match o with
 | none=>[zI 0,zL [],.d (.b false)]
 | some x=>[zI x.1,.row 0,.d (.b true)]
@[reducible] def earB (o:Option (Int×List Int)):List (Nat×AO):=match o with
 | none=>[]
 | some x=>[(0,.row 3 (intE x.2) true)]
theorem QeY{r:Jy}{j:Job}{a:Int}(h:Q5 r)(hj:Qu j=true)(ha:0<=a/\a<=1000000000):MCalls Tryz.prog 251 [Y7 r,jobA j,zI a] [] (fun _:Unit=>True) (fun _=>earR (earO r j a)) (fun _=>[]) (fun _=>earB (earO r j a)):=by
 refine zMC func251 fun w0 Z O=>?_
 have hs:=h.small
 obtain⟨j1,j2⟩:=YA hj
 have c0:=Qcz h
 have c1:=ZM (j:=j)
 rw[hj]at c1
 have c2:=Wz (x:=a)
 rw[show inB a 0 1000000000=true from Yr.mpr ha]at c2
 have hpl:=Qy r.profs
 have hpl2:=Qy ([r.lics]++r.profs)
 have hal:([r.lics]++r.profs).length=r.profs.length+1:=by simp
 have hpr:∀p∈[r.lics]++r.profs,Jp p:=fun p hp=>h.parts p (by rcases Xag.1 hp with hp|hp <;> simp_all)
 have htr:=Qtj r a
 have htl0:=QjI h a
 have hti:=QiU h ha
 have htris:=(QfS r a).1
 unfold earO
 generalize timR r a=ts at *
 have hle:=Qb ts
 repeat'(first|(refine zhm fun hb=>?_;try exact zab)|refine Qe ?_|(apply zch;exact zcg)|exact zhk|refine zg3 ?_ ?_|intro _|fail)
 refine Qs 35 rfl ?_
 generalize hps:[r.lics]++r.profs=ps at *
 refine Qa (fun(i:Nat)=>⟨111,[(2,zI a),(3,.ptr 3 0),(4,.ptr 4 0),(9,.row 32),(38,zL (QZ ps)),(39,zI (ps.length:Nat)),(40,zI i)],[(3,.box 209 (Qa9 r)),(4,.box 72 ((jobD j).map AV.d)),(32,.row 3 (intE (tnL a (ps.take i))) true)]⟩) (fun i=>i<=ps.length) (fun i=>ps.length-i) 0 (by exact Xab _) ?_ ?_
 ·refine⟨rfl,?_,?_,rfl⟩
  repeat'(first|exact ze3|refine ze2 ?_ ?_|refine ze4 ?_|exact ze5|fail)
  all_goals exact zp (by first|rfl|(rw[QdG,hps,hpl2])|(rw[QdG,hps]))
 intro q hq
 have htl:=Qpj (a:=a) (fun p hp=>(hpr p hp).len.2) q hq
 by_cases hq':q<ps.length
 ·have hst:=QjX (a:=a) hq'
  have hp:=hpr _ (QO hq')
  have hpn:=hp.len
  generalize hpe:nth ps q=p at hst hp hpn
  have hpl3:=JD p
  generalize tnL a (ps.take q)=o at hst htl ⊢
  repeat'(first|(refine zhm fun hb=>?_;try exact zab)|refine Qe ?_|(apply zch;exact zcg)|exact zhk|refine zg3 ?_ ?_|intro _|fail)
  refine Qa (fun(k:Nat)=>⟨111,[(2,zI a),(3,.ptr 3 0),(4,.ptr 4 0),(9,.row 32),(38,zL (QZ ps)),(39,zI (ps.length:Nat)),(40,zI q),(45,zL (ptE p)),(46,zI (p.length:Nat)),(47,zI k)],[(3,.box 209 (Qa9 r)),(4,.box 72 ((jobD j).map AV.d)),(32,.row 3 (intE (tnP a o (p.take k))) true)]⟩) (fun k=>k<=p.length) (fun k=>p.length-k) 0 (by exact Xab _) ?_ ?_
  ·refine⟨rfl,?_,?_,rfl⟩
   repeat'(first|exact ze3|refine ze2 ?_ ?_|refine ze4 ?_|exact ze5|fail)
   all_goals exact zp (by first|rfl|exact hpl3|rw[<-hpe]|(rw[hpe];exact hpl3))
  intro k hk
  have htp:=Qi5 (a:=a) (p.take k) o
  rw[Xai]at htp
  by_cases hk':k<p.length
  ·have hst2:=QqY (a:=a) (out:=o) hk'
   generalize tnP a o (p.take k)=u at hst2 htp ⊢
   repeat'(first|(refine zhm fun hb=>?_;try exact zab)|refine Qe ?_|(apply zch;exact zcg)|exact zhk|refine zg3 ?_ ?_|intro _|fail)
   ·rw[if_pos (by assumption)]at hst2
    refine⟨k+1,by omega,by omega,?_⟩
    refine⟨rfl,?_,?_,rfl⟩
    repeat'(first|exact ze3|refine ze2 ?_ ?_|refine ze4 ?_|exact ze5|fail)
    all_goals exact zp (by first|rfl|(rw[hst2];exact Jt _ _))
   ·rw[if_neg (by assumption)]at hst2
    refine⟨k+1,by omega,by omega,?_⟩
    refine⟨rfl,?_,?_,rfl⟩
    repeat'(first|exact ze3|refine ze2 ?_ ?_|refine ze4 ?_|exact ze5|fail)
    all_goals exact zp (by first|rfl|rw[hst2])
  ·obtain rfl:k=p.length:=by omega
   rw[Xap]at *
   repeat'(first|(refine zhm fun hb=>?_;try exact zab)|refine Qe ?_|(apply zch;exact zcg)|exact zhk|refine zg3 ?_ ?_|intro _|fail)
   refine⟨q+1,by omega,by omega,?_⟩
   refine⟨rfl,?_,?_,rfl⟩
   repeat'(first|exact ze3|refine ze2 ?_ ?_|refine ze4 ?_|exact ze5|fail)
   all_goals exact zp (by first|rfl|rw[hst])
 obtain rfl:q=ps.length:=by omega
 rw[Xap]at *
 have hsl:(tnL a ps).length<=1000000000:=by omega
 have hsl2:(srtI (tnL a ps)).length<=1000000000:=by rw[J4];exact hsl
 repeat'(first|(refine zhm fun hb=>?_;try exact zab)|refine Qe ?_|(apply zch;exact zcg)|exact zhk|refine zg3 ?_ ?_|(refine km [32] (Qn3 (d:=true) hsl) rfl rfl (fun i hi=>?_);try dsimp only at hi)|(refine km [32] (Qhf hsl2) rfl rfl (fun i hi=>?_);try dsimp only at hi)|intro _|fail)
 refine Qs 32 rfl ?_
 rw[htr]
 refine Qa (fun(k:Nat)=>⟨111,[(3,.ptr 3 0),(4,.ptr 4 0),(65,zL (intE ts)),(66,zI (ts.length:Nat)),(67,zI k)],[(3,.box 209 (Qa9 r)),(4,.box 72 ((jobD j).map AV.d))]⟩) (fun k=>k<=ts.length/\Qav r j (ts.drop k)=Qav r j ts) (fun k=>ts.length-k) 0 (by exact⟨Xab _,rfl⟩) ?_ ?_
 ·refine⟨rfl,?_,?_,rfl⟩
  repeat'(first|exact ze3|refine ze2 ?_ ?_|refine ze4 ?_|exact ze5|fail)
  all_goals first|exact zp rfl|exact zp (by have e:=Qht (srtI (tnL a ps));rw[htr]at e;exact e)
 rintro k ⟨hk,hg⟩
 by_cases hk':k<ts.length
 ·have htm:=hti _ (QO hk')
  have hge:=Qs5 htris hk'
  rw[Qc2 hk',Qav]at hg
  by_cases hw:nth ts k+j.wall<=1000000000
  ·have c3:=Qpl (a:=nth ts k) (b:=nth ts k+j.wall) h.lics
   have c4:=Qii (a:=j.lic) (b:=WV r.lics (nth ts k) (nth ts k+j.wall))
   cases hf:V9 j.lic (WV r.lics (nth ts k) (nth ts k+j.wall)) with
   | false=>
    rw[hf]at c4
    rw[show canO r j (nth ts k)=none from if_neg (fun e=>by rw[hf]at e;cases e.2)]at hg
    dsimp only at hg
    repeat'(first|(refine zhm fun hb=>?_;try exact zab)|refine QuS ?_|(apply zch;exact zcg)|exact zhk|refine zg3 ?_ ?_|intro _|fail)
    refine⟨k+1,⟨by omega,hg⟩,by omega,?_⟩
    exact zll
   | true=>
    rw[hf]at c4
    rw[show canO r j (nth ts k)=WR r.topo (QdQ r j.need (nth ts k) (nth ts k+j.wall)) j.nodes j.level from if_pos ⟨hw,hf⟩]at hg
    have hel:=Qg3 (r:=r) (need:=j.need) (a:=nth ts k) (b:=nth ts k+j.wall)
    have c5:=QlP (need:=j.need) (a:=nth ts k) (b:=nth ts k+j.wall) h
    have c6:=Qq2 (most:=j.level) h.topo (QfI h (need:=j.need) (a:=nth ts k) (b:=nth ts k+j.wall)) j1.1 (by omega)
    cases hc:WR r.topo (QdQ r j.need (nth ts k) (nth ts k+j.wall)) j.nodes j.level with
    | none=>
     rw[hc]at hg c6
     dsimp only at hg
     repeat'(first|(apply QB 20;kernel_rfl;exact rfl)|(refine zhm fun hb=>?_;try exact zab)|refine QuS ?_|(apply zch;exact zcg)|exact zhk|refine zg3 ?_ ?_|refine kmu c5 ?_|(refine km [] (c6) rfl rfl (fun i hi=>?_);try dsimp only at hi)|intro _|fail)
     refine⟨k+1,⟨by omega,hg⟩,by omega,?_⟩
     exact zll
    | some l=>
     rw[hc]at hg c6
     dsimp only at hg
     rw[<-hg]
     repeat'(first|(apply QB 20;kernel_rfl;exact rfl)|(refine zhm fun hb=>?_;try exact zab)|refine Qfn ?_|(apply zch;exact zcg)|exact zhk|refine zg3 ?_ ?_|refine kmu c5 ?_|(refine km [] (c6) rfl rfl (fun i hi=>?_);try dsimp only at hi)|intro _|fail)
     show AWp _ _ _ _
     refine QD ?_
     apply Qt
     exact zm () [104] trivial zae zae zae
  ·have hno:canO r j (nth ts k)=none:=if_neg (fun e=>hw e.1)
   rw[hno]at hg
   dsimp only at hg
   rw[QeD (fun t ht=>if_neg (fun e=>by have:=hge t (by rw[Qc2 hk'];exact Xae _ ht);omega))]at hg
   rw[<-hg]
   repeat'(first|(refine zhm fun hb=>?_;try exact zab)|refine Qfn ?_|(apply zch;exact zcg)|exact zhk|refine zg3 ?_ ?_|intro _|fail)
   exact zDR
 ·rw[Xa7 (by omega),Qav]at hg
  rw[<-hg]
  repeat'(first|(refine zhm fun hb=>?_;try exact zab)|refine Q7 ?_|(apply zch;exact zcg)|exact zhk|refine zg3 ?_ ?_|intro _|fail)
  exact zDR
theorem Qme{r:Jy}{j:Job}{a:Int}(h:Q5 r)(hj:Qu j=true)(ha:0<=a/\a<=1000000000):DC Tryz.prog 251 [Y7 r,jobA j,zI a] (earA (earO r j a)):=by
 have:=dc_m (QeY h hj ha)
 cases he:earO r j a <;> rw[he]at this <;> exact this
theorem QeZ{r:Jy}{j:Job}:∀{ts:List Int} {x:Int×List Int},Qav r j ts=some x->x.1∈ts/\canO r j x.1=some x.2
 | [],x,h=>by cases h
 | t::ts,x,h=>by
  unfold Qav at h
  split at h
  ·rename_i l hl
   injection h with h
   subst h
   exact⟨Xaa,hl⟩
  ·obtain⟨h1,h2⟩:=QeZ h
   exact⟨Xae _ h1,h2⟩
theorem Qhd{r:Jy}{j:Job}{a:Int}{x:Int×List Int}(h:Q5 r)(hj:Qu j=true)(ha:0<=a/\a<=1000000000)(he:earO r j a=some x):(a<=x.1/\x.1<=1000000000)/\x.2.length<=24:=by
 obtain⟨h1,h2⟩:=QeZ he
 refine⟨QiU h ha _ h1,?_⟩
 unfold canO at h2
 split at h2
 ·obtain⟨j1,_⟩:=YA hj
  have:=QlU h.topo (QfI h) j1.1 h2
  omega
 ·cases h2
end
end Go.Proofs.YtihgfennoalocaaGreat
