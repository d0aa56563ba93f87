/-
  Placement: what is free least, the program's; the nodes that will do; both.
-/
import Derived.Test.YtkdniahincpmaaaGreatQB19
import Derived.Test.YtkdniahincpmaaaGreatQB14
set_option maxRecDepth 100000
set_option maxHeartbeats 16000000
namespace Go.Proofs.YtkdniahincpmaaaGreat
open Go Go.RowKit Tryz
section
attribute [local irreducible] AWp QM OpOk ACalls ChA QsOk MCalls EnC PY

theorem Quv{l:List Pt}(h:Jx l):∀(k i:Nat),i+k+1<l.length->(nth l i).at'<(nth l (i+k+1)).at'
 | 0,i,hi=>(h.steps i hi).1
 | k+1,i,hi=>by
  have h1:=Quv h k i (by omega)
  have h2:=(h.steps (i+k+1) hi).1
  rw[show i+(k+1)+1=i+k+1+1 by omega]
  omega
theorem QqC{l:List Pt}(h:Jx l){i j:Nat}(hij:i<j)(hj:j<l.length):(nth l i).at'<(nth l j).at':=by
 have:=Quv h (j-i-1) i (by omega)
 rw[show i+(j-i-1)+1=j by omega]at this
 exact this
theorem Qmz{l:List Pt}(h:Jx l){i:Nat}(hi:i<l.length){a:Int}(ha:(nth l i).at'=a):∀(k:Nat),i+1+k<=l.length->QN (l.take (i+1+k)) a=(nth l i).free
 | 0,_=>by rw[XbK,WK hi,if_pos (by omega)]
 | k+1,hk=>by
  have h1:=QqC h (i:=i) (j:=i+1+k) (by omega) (by omega)
  rw[<-XbH,WK (by omega),if_neg (by omega)]
  exact Qmz h hi ha k (by omega)
theorem Qe1{l:List Pt}{a b:Int}{v:V3}:∀(i:Nat),i<=l.length->(∀j,j<i->(nth l j).at'<a)->Xz (l.take i) a b v=v
 | 0,_,_=>by simp[Xz]
 | i+1,hi,h=>by
  have:=h i (by omega)
  rw[VN (by omega),if_neg (by omega)]
  exact Qe1 i (by omega) fun j hj=>h j (by omega)
theorem Qpk{v:V3}(h:Qh v=true):minO v v=v:=by
 rw[QuK h h]
 cases v
 simp[minV]
def QbH(l:List Pt)(a b:Int)(v0:V3):V3:=l.foldl (fun v x=>if a<x.at'/\x.at'<b then minO v x.free else v) v0
theorem QdQ{l:List Pt}{i:Nat}(h:i<l.length)(a b:Int)(v0:V3):QbH (l.take (i+1)) a b v0=if a<(nth l i).at'/\(nth l i).at'<b then minO (QbH (l.take i) a b v0) (nth l i).free else QbH (l.take i) a b v0:=by
 rw[QF h,QbH,XaN]
 rfl
theorem Qh3{l:List Pt}(h:Jx l){a b:Int}:∀(i:Nat),i<=l.length->QbH (l.take i) a b (QN l a)=Xz (l.take i) a b (QN l a)
 | 0,_=>by simp[QbH,Xz]
 | i+1,hi=>by
  have ih:=Qh3 h (a:=a) (b:=b) i (by omega)
  rw[QdQ (by omega),VN (by omega),ih]
  by_cases h1:a<(nth l i).at'/\(nth l i).at'<b
  ·rw[if_pos h1,if_pos ⟨by omega,by omega⟩]
  ·rw[if_neg h1]
   by_cases h2:a<=(nth l i).at'/\(nth l i).at'<b
   ·rw[if_pos h2]
    have e:(nth l i).at'=a:=by omega
    have hf:=Qmz h (i:=i) (by omega) e (l.length-(i+1)) (by omega)
    rw[show i+1+(l.length-(i+1))=l.length by omega,Xal]at hf
    rw[Qe1 i (by omega) fun j hj=>by have:=QqC h hj (by omega);omega,hf,Qpk (h.pts i (by omega)).2]
   ·rw[if_neg h2]
theorem Qpj{l:List Pt}{a b:Int}(h:Jx l):zAc 263 [Qah l,zI a,zI b] [vecA (VK l a b)] []:=by
  refine zAC func263 fun w0 Z=>?_
  have k:=JN l
  have j:=h.len
  repeat'(first|(refine zhm fun hb=>?_;try exact zab)|refine zUtp ?_|refine zg2 ?_ ?_|refine kc (Qiq (l:=l) (t:=a) (by omega)) rfl rfl ?_|intro _)
  refine Qa (fun(i:Nat)=>⟨36,[(1,zI a),(2,zI b),(6,.ptr 6 0),(7,.ptr 7 0),(14,zL (ptE l)),(15,zI (l.length:Nat)),(16,zI i)],[(6,.box 29 (vecC zV)),(7,.box 29 (vecC (QbH (l.take i) a b (QN l a))))]⟩) (fun i=>i<=l.length) (fun i=>l.length-i) 0 (by exact Xae _) ?_ ?_
  · exact zll
  intro i g
  by_cases f:i<l.length
  · have c:=QdQ (a:=a) (b:=b) (v0:=QN l a) f
    by_cases e:a<(nth l i).at'/\(nth l i).at'<b
    · rw[if_pos e]at c
      obtain⟨m,n⟩:=e
      repeat'(first|(refine zhm fun hb=>?_;try exact zab)|refine zUtp ?_|refine zg2 ?_ ?_|refine kc (QtN (a:=QbH (l.take i) a b (QN l a)) (b:=(nth l i).free)) rfl rfl ?_|intro _)
      refine⟨i+1,by omega,by omega,?_⟩
      refine⟨rfl,?_,?_,rfl⟩
      repeat'(first|exact ze3|refine ze2 ?_ ?_|refine ze4 ?_|exact ze5|fail)
      all_goals exact zp (by first|rfl|rw[c])
    · rw[if_neg e]at c
      repeat'(first|(refine zhm fun hb=>?_;try exact zab)|refine zUtp ?_|refine zg2 ?_ ?_|intro _)
      all_goals first
        | exact absurd ⟨by omega,by omega⟩ e
        | (refine⟨i+1,by omega,by omega,?_⟩
           refine⟨rfl,?_,?_,rfl⟩
           repeat'(first|exact ze3|refine ze2 ?_ ?_|refine ze4 ?_|exact ze5|fail)
           all_goals exact zp (by first|rfl|rw[c]))
  · have d:QbH (l.take i) a b (QN l a)=VK l a b:=by
      rw[Qh3 h i g,Xay (by omega)]
      rfl
    repeat'(first|(refine zhm fun hb=>?_;try exact zab)|refine zUtp ?_|refine zg2 ?_ ?_|intro _)
    refine zr [] ?_ ?_
    repeat'(first|exact ze3|refine ze2 ?_ ?_|refine ze4 ?_|exact ze5|fail)
    all_goals exact zp (by first|rfl|rw[d])
def elB(r:Jn)(need:V3)(a b:Int)(i:Nat):Bool:=nth r.up i&&Za need (VK (nth r.profs i) a b)
def elU(r:Jn)(need:V3)(a b:Int)(i:Nat):List Int:=((List.range i).filter (elB r need a b)).map fun(i:Nat)=>(i:Int)
def Qa3(r:Jn)(need:V3)(a b:Int):List Int:=elU r need a b r.profs.length
theorem Qx2(r:Jn)(need:V3)(a b:Int)(i:Nat):elU r need a b (i+1)=if elB r need a b i=true then elU r need a b i++[(i:Int)]else elU r need a b i:=by
 unfold elU
 rw[XbR,Xa5,XaG]
 split
 ·rename_i h;simp[h]
 ·rename_i h;simp[h]
theorem Qkx(r:Jn)(need:V3)(a b:Int)(i:Nat):(elU r need a b i).length<=i:=by
 unfold elU
 rw[Xar]
 exact Xam (Xa2 _ _) (by rw[List.length_range];exact Xaj _)

theorem Qhd{r:Jn}{need:V3}{a b:Int}{i:Nat}:elB r need a b i=true↔nth r.up i=true/\Za need (VK (nth r.profs i) a b)=true:=by unfold elB;rw[Xac]
theorem Qne{r:Jn}{need:V3}{a b:Int}(h:Q6 r):DC Tryz.prog 265 [Ws r,vecA need,zI a,zI b] [zL (intE (Qa3 r need a b))]:=by
  refine zMC func265 fun w0 Z O=>?_
  have hs:=h.small
  have h1:=h.up
  have h2:=h.num
  have m:=QB r.profs
  have k:=Qq r.up
  repeat'(first|(refine zhm fun hb=>?_;try exact zab)|refine Qd ?_|(apply zch;exact zcg)|exact zhk|refine zg3 ?_ ?_|intro _)
  refine Qa (fun(i:Nat)=>⟨40,[(2,zI a),(3,zI b),(4,.ptr 4 0),(5,.ptr 5 0),(9,.row 12),(14,zL (Q7 r.profs)),(15,zI (r.profs.length:Nat)),(16,zI i)],[(4,.box 180 (QbV r)),(5,.box 29 (vecC need)),(12,.row 3 (intE (elU r need a b i)) true)]⟩) (fun i=>i<=r.profs.length) (fun i=>r.profs.length-i) 0 (by exact Xae _) ?_ ?_
  · exact zll
  intro i hi
  have l:=Qkx r need a b i
  by_cases g:i<r.profs.length
  · have c:=Qx2 r need a b i
    have c1:=Qpj (a:=a) (b:=b) (h.profs i g)
    have f:=Qji (a:=need) (b:=VK (nth r.profs i) a b)
    cases e:elB r need a b i with
    | true=>
      rw[if_pos e]at c
      obtain⟨j,d⟩:=Qhd.1 e
      rw[d]at f
      repeat'(first|(refine zhm fun hb=>?_;try exact zab)|refine Qd ?_|(apply zch;exact zcg)|exact zhk|refine zg3 ?_ ?_|intro _)
      all_goals first
        | (rw[j]at hb;cases hb;done)
        | (refine⟨i+1,by omega,by omega,?_⟩
           refine⟨rfl,?_,?_,rfl⟩
           repeat'(first|exact ze3|refine ze2 ?_ ?_|refine ze4 ?_|exact ze5|fail)
           all_goals exact zp (by first|rfl|(rw[c];exact JG _ _)))
    | false=>
      rw[if_neg (by rw[e];simp)]at c
      cases d:Za need (VK (nth r.profs i) a b) with
      | true=>
        rw[d]at f
        repeat'(first|(refine zhm fun hb=>?_;try exact zab)|refine Qd ?_|(apply zch;exact zcg)|exact zhk|refine zg3 ?_ ?_|intro _)
        all_goals first
          | (have:=Qhd.2 ⟨hb,d⟩;rw[e]at this;cases this;done)
          | (refine⟨i+1,by omega,by omega,?_⟩
             refine⟨rfl,?_,?_,rfl⟩
             repeat'(first|exact ze3|refine ze2 ?_ ?_|refine ze4 ?_|exact ze5|fail)
             all_goals exact zp (by first|rfl|rw[c]))
      | false=>
        rw[d]at f
        repeat'(first|(refine zhm fun hb=>?_;try exact zab)|refine Qd ?_|(apply zch;exact zcg)|exact zhk|refine zg3 ?_ ?_|intro _)
        all_goals
          refine⟨i+1,by omega,by omega,?_⟩
          refine zag ?_;exact zp (by rw[c])
  · obtain rfl:i=r.profs.length:=by omega
    repeat'(first|(refine zhm fun hb=>?_;try exact zab)|refine Q2 ?_|(apply zch;exact zcg)|exact zhk|refine zg3 ?_ ?_|intro _)
    show AWp _ _ _ _
    refine Qp 12 rfl ?_
    exact zDR
theorem QnY{r:Jn}{need:V3}{a b:Int}(h:Q6 r)(hs:Vm a b=true):DC Tryz.prog 308 [Ws r,vecA need,zI a,zI b] [zL (intE (Qa3 r need a b))]:=by
  refine zMC func308 fun w0 Z O=>?_
  have s:=h.small
  have h1:=h.up
  have h2:=h.num
  have p:=QB r.profs
  have n:=Qq r.up
  have c0:=Qdl h
  repeat'(first|(refine zhm fun hb=>?_;try exact zab)|refine zUtp ?_|refine zg2 ?_ ?_|intro _)
  refine Qa (fun(i:Nat)=>⟨54,[(2,zI a),(3,zI b),(4,.ptr 4 0),(5,.ptr 5 0),(9,.row 13),(20,zI (r.profs.length:Nat)),(21,zI i)],[(4,.box 180 (QbV r)),(5,.box 29 (vecC need)),(13,.row 3 (intE (elU r need a b i)) true)]⟩) (fun i=>i<=r.profs.length) (fun i=>r.profs.length-i) 0 (by exact Xae _) ?_ ?_
  · exact zll
  intro i hi
  have o:=Qkx r need a b i
  by_cases g:i<r.profs.length
  · have c:=Qx2 r need a b i
    have j:=h.profs i g
    have q:=j.len
    have k:=QdO (l:=nth r.profs i) (a:=a) (b:=b) (by omega)
    rw[JE.2 j,hs,Bool.and_self]at k
    have f:=QeD (a:=need) (b:=VK (nth r.profs i) a b)
    cases e:elB r need a b i with
    | true=>
      rw[if_pos e]at c
      obtain⟨m,d⟩:=Qhd.1 e
      rw[d]at f
      repeat'(first|(refine zhm fun hb=>?_;try exact zab)|refine zUtp ?_|refine zg2 ?_ ?_|intro _)
      all_goals first
        | (rw[m]at hb;cases hb;done)
        | (refine⟨i+1,by omega,by omega,?_⟩
           refine⟨rfl,?_,?_,rfl⟩
           repeat'(first|exact ze3|refine ze2 ?_ ?_|refine ze4 ?_|exact ze5|fail)
           all_goals exact zp (by first|rfl|(rw[c];exact JG _ _)))
    | false=>
      rw[if_neg (by rw[e];simp)]at c
      cases d:Za need (VK (nth r.profs i) a b) with
      | true=>
        rw[d]at f
        repeat'(first|(refine zhm fun hb=>?_;try exact zab)|refine zUtp ?_|refine zg2 ?_ ?_|intro _)
        all_goals first
          | (have:=Qhd.2 ⟨hb,d⟩;rw[e]at this;cases this;done)
          | (refine⟨i+1,by omega,by omega,?_⟩
             refine⟨rfl,?_,?_,rfl⟩
             repeat'(first|exact ze3|refine ze2 ?_ ?_|refine ze4 ?_|exact ze5|fail)
             all_goals exact zp (by first|rfl|rw[c]))
      | false=>
        rw[d]at f
        repeat'(first|(refine zhm fun hb=>?_;try exact zab)|refine zUtp ?_|refine zg2 ?_ ?_|intro _)
        all_goals
          refine⟨i+1,by omega,by omega,?_⟩
          refine zag ?_;exact zp (by rw[c])
  · obtain rfl:i=r.profs.length:=by omega
    repeat'(first|(refine zhm fun hb=>?_;try exact zab)|refine zUrp ?_|refine zg2 ?_ ?_|intro _)
    show AWp _ _ _ _
    refine Qp 13 rfl ?_
    exact zDR

theorem Qve{r:Jn}{need:V3}{a b:Int}(i:Nat):risI (elU r need a b i):=by
 unfold risI elU
 rw[Xbn]
 exact(List.pairwise_lt_range.filter _).imp fun h=>by omega
theorem Qqb{r:Jn}{need:V3}{a b:Int}{x:Int}(h:x∈Qa3 r need a b):0<=x/\x<r.profs.length:=by
 obtain⟨i,c,rfl⟩:=Xaf.1 h
 have:=XbZ.1 (XaB.1 c).1
 omega
theorem Qgt{r:Jn}(h:Q6 r){need:V3}{a b:Int}:Jo r.topo (Qa3 r need a b):=WP.2 fun x hx=>by
 have:=Qqb hx
 have:=h.num
 omega
theorem Qqt{r:Jn}{need:V3}{a b:Int}:ascP (Qa3 r need a b):=fun j hj=>by
 have h:=Xa9.1 (Qve (r:=r) (need:=need) (a:=a) (b:=b) r.profs.length) j (j+1) (by show j<(Qa3 r need a b).length;omega) hj (by omega)
 rw[Jd (by omega),Jd hj]
 exact h
theorem QiH{r:Jn}{need:V3}{a b:Int}:(Qa3 r need a b).length<=r.profs.length:=Qkx _ _ _ _ _
def tmS(a:Int)(out:List Int)(x:Int):List Int:=if a<x/\hasI out x=false then rise x out else out
def tmP(a:Int)(out:List Int)(p:List Pt):List Int:=p.foldl (fun o x=>tmS a o x.at') out
def tmL(a:Int)(ps:List (List Pt)):List Int:=ps.foldl (tmP a) [a]
theorem Qtm{a:Int}{out:List Int}{p:List Pt}{i:Nat}(h:i<p.length):tmP a out (p.take (i+1))=tmS a (tmP a out (p.take i)) (nth p i).at':=by
 rw[QF h,tmP,XaN]
 rfl
theorem Ql9{a:Int}{ps:List (List Pt)}{i:Nat}(h:i<ps.length):tmL a (ps.take (i+1))=tmP a (tmL a (ps.take i)) (nth ps i):=by
 rw[QF h,tmL,XaN]
 rfl
theorem Qky{a:Int}:∀(p:List Pt) (out:List Int),(tmP a out p).length<=out.length+p.length
 | [],out=>Xaj _
 | x::p,out=>by
  have h:=Qky (a:=a) p (tmS a out x.at')
  have h2:(tmS a out x.at').length<=out.length+1:=by
   unfold tmS
   split
   ·rw[Qdp];exact Xaj _
   ·omega
  show(tmP a (tmS a out x.at') p).length<=_
  rw[Xap]
  omega
theorem Qkp{a:Int}{ps:List (List Pt)}(h:∀p∈ps,p.length<=200):∀(i:Nat),i<=ps.length->(tmL a (ps.take i)).length<=1+200*i
 | 0,_=>by simp[tmL]
 | i+1,hi=>by
  have h1:=Qkp (a:=a) h i (by omega)
  have h2:=h _ (QE (show i<ps.length by omega))
  rw[Ql9 (by omega)]
  have:=Qky (a:=a) (nth ps i) (tmL a (ps.take i))
  omega
theorem Qc4{n x:Int}:∀{l:List Int},x∈rise n l↔x=n\/x∈l
 | []=>by simp[rise]
 | y::l=>by
  unfold rise
  split
  ·simp
  ·rw[Xai,Qc4 (l:=l),Xai]
   constructor
   ·rintro (h|h|h)
    ·exact .inr (.inl h)
    ·exact .inl h
    ·exact .inr (.inr h)
   ·rintro (h|h|h)
    ·exact .inr (.inl h)
    ·exact .inl h
    ·exact .inr (.inr h)
theorem Qma{n:Int}:∀{l:List Int},risI l->n∉l->risI (rise n l)
 | [],_,_=>by simp[rise,risI]
 | y::l,h,hn=>by
  unfold risI at h
  have h':=Xau.1 h
  have hy:n≠y:=fun e=>hn (e▸Xaa)
  unfold rise
  split
  ·rename_i hlt
   refine Xau.2 ⟨fun z hz=>?_,h⟩
   rcases Xai.1 hz with rfl|hz
   ·omega
   ·have:=h'.1 z hz;omega
  ·rename_i hlt
   refine Xau.2 ⟨fun z hz=>?_,Qma h'.2 fun e=>hn (Xad _ e)⟩
   rcases Qc4.1 hz with rfl|hz
   ·omega
   ·exact h'.1 z hz
theorem Qu5{a x:Int}{out:List Int}(h:risI out):risI (tmS a out x)/\∀y,y∈tmS a out x↔y∈out\/a<x/\y=x:=by
 unfold tmS
 split
 ·rename_i b
  have d:x∉out:=fun e=>by rw[WR.2 e]at b;cases b.2
  refine⟨Qma h d,fun y=>?_⟩
  rw[Qc4]
  exact⟨fun e=>e.elim (fun e=>.inr ⟨b.1,e⟩) .inl,fun e=>e.elim .inr fun e=>.inl e.2⟩
 ·rename_i b
  refine⟨h,fun y=>⟨.inl,fun e=>e.elim id fun e=>?_⟩⟩
  cases c:hasI out x with
  | true=>rw[e.2];exact WR.1 c
  | false=>exact absurd ⟨e.1,c⟩ b
theorem QqA{a:Int}:∀{p:List Pt} {out:List Int},risI out->risI (tmP a out p)/\∀y,y∈tmP a out p↔y∈out\/∃x∈p,a<x.at'/\y=x.at'
 | [],out,h=>⟨h,fun y=>by simp[tmP]⟩
 | x::p,out,h=>by
  obtain⟨h1,h2⟩:=Qu5 (a:=a) (x:=x.at') h
  obtain⟨h3,h4⟩:=QqA (a:=a) (p:=p) h1
  refine⟨h3,fun y=>?_⟩
  rw[show tmP a out (x::p)=tmP a (tmS a out x.at') p from rfl,h4,h2]
  constructor
  ·rintro ((h|h)|⟨z,hz,h⟩)
   ·exact .inl h
   ·exact .inr ⟨x,Xaa,h⟩
   ·exact .inr ⟨z,Xad _ hz,h⟩
  ·rintro (h|⟨z,hz,h⟩)
   ·exact .inl (.inl h)
   ·rcases Xai.1 hz with rfl|hz
    ·exact .inl (.inr h)
    ·exact .inr ⟨z,hz,h⟩
theorem QoF{a:Int}:∀{ps:List (List Pt)} {out:List Int},risI out->risI (ps.foldl (tmP a) out)/\∀y,y∈ps.foldl (tmP a) out↔y∈out\/∃p∈ps,∃x∈p,a<x.at'/\y=x.at'
 | [],out,h=>⟨h,fun y=>by simp⟩
 | p::ps,out,h=>by
  obtain⟨h1,h2⟩:=QqA (a:=a) (p:=p) h
  obtain⟨h3,h4⟩:=QoF (a:=a) (ps:=ps) h1
  refine⟨h3,fun y=>?_⟩
  rw[Xa4,h4,h2]
  constructor
  ·rintro ((h|h)|⟨z,hz,h⟩)
   ·exact .inl h
   ·exact .inr ⟨p,Xaa,h⟩
   ·exact .inr ⟨z,Xad _ hz,h⟩
  ·rintro (h|⟨z,hz,h⟩)
   ·exact .inl (.inl h)
   ·rcases Xai.1 hz with rfl|hz
    ·exact .inl (.inr h)
    ·exact .inr ⟨z,hz,h⟩
def timR(r:Jn)(a:Int):List Int:=tmL a (r.profs++[r.lics])
theorem Qgx(r:Jn)(a:Int):risI (timR r a)/\∀y,y∈timR r a↔y=a\/∃p∈r.profs++[r.lics],∃x∈p,a<x.at'/\y=x.at':=by
 obtain⟨b,c⟩:=QoF (a:=a) (ps:=r.profs++[r.lics]) (out:=[a]) (by simp[risI])
 exact⟨b,fun y=>by rw[show timR r a=(r.profs++[r.lics]).foldl (tmP a) [a] from rfl,c,XaH]⟩
theorem Q6.parts{r:Jn}(h:Q6 r):∀p∈r.profs++[r.lics],Jx p:=fun p hp=>by
 rcases Xag.1 hp with hp|hp
 ·obtain⟨j,a,rfl⟩:=Jt hp
  exact h.profs j a
 ·rw[XaH.1 hp];exact h.lics
theorem Qki{r:Jn}(h:Q6 r){a:Int}(ha:0<=a/\a<=1000000000):∀y∈timR r a,a<=y/\y<=1000000000:=fun y hy=>by
 rcases((Qgx r a).2 y).1 hy with rfl|⟨p,hp,x,hx,h1,rfl⟩
 ·omega
 ·obtain⟨j,b,rfl⟩:=Jt hx
  have:=((h.parts p hp).pts j b).1
  omega
theorem QlQ{r:Jn}(h:Q6 r)(a:Int):(timR r a).length<=10000:=by
 have hs:=h.small
 have c:=Qkp (a:=a) (fun p hp=>(h.parts p hp).len.2) (r.profs++[r.lics]).length (Xaj _)
 rw[Xal]at c
 have h2:(r.profs++[r.lics]).length<=25:=by rw[Xab,XaF];omega
 show(tmL a _).length<=_
 omega
def canO(r:Jn)(j:Job)(t:Int):Option (List Int):=if t+j.wall<=1000000000/\Za j.lic (VK r.lics t (t+j.wall))=true then WJ r.topo (Qa3 r j.need t (t+j.wall)) j.nodes j.level else none
def Qai(r:Jn)(j:Job):List Int->Option (Int×List Int)
 | []=>none
 | t::ts=>match canO r j t with
  | some l=>some (t,l)
  | none=>Qai r j ts
def earO(r:Jn)(j:Job)(a:Int):Option (Int×List Int):=Qai r j (timR r a)
@[reducible] def earA (o:Option (Int×List Int)):List AV:=[zI ((o.map Prod.fst).getD 0),zL (intE ((o.map Prod.snd).getD [])),.d (.b o.isSome)]
theorem QdF{l:List Int}{i:Nat}(h:i<l.length):l.drop i=nth l i::l.drop (i+1):=by rw[Jd h];exact Xa8 h
theorem Qfv(l:List (List Pt))(p:List Pt):Q7 l++[[.sl (ptE p)]]=Q7 (l++[p]):=by simp[Q7]
theorem QnH{r:Jn}{a:Int}(h:Q6 r):DC Tryz.prog 275 [Ws r,zI a] [zL (intE (timR r a))]:=by
 refine zMC func275 fun w0 Z O=>?_
 have hs:=h.small
 have ac:=QB r.profs
 have m:=QB (r.profs++[r.lics])
 have aa:(r.profs++[r.lics]).length=r.profs.length+1:=by simp
 have s:=h.parts
 unfold timR
 repeat'(first|(refine zhm fun hb=>?_;try exact zab)|(refine Qi 2 11 rfl ?_)|refine Qd ?_|(apply zch;exact zcg)|exact zhk|refine zg3 ?_ ?_|intro _)
 refine Qp 12 rfl ?_
 generalize hps:r.profs++[r.lics]=ps at *
 refine Qa (fun(i:Nat)=>⟨50,[(1,zI a),(5,zL (intE (tmL a (ps.take i)))),(19,zL (Q7 ps)),(20,zI (ps.length:Nat)),(21,zI i)],[]⟩) (fun i=>i<=ps.length) (fun i=>ps.length-i) 0 (by exact Xae _) ?_ ?_
 ·refine⟨rfl,?_,?_,rfl⟩
  repeat'(first|exact ze3|refine ze2 ?_ ?_|refine ze4 ?_|exact ze5|fail)
  all_goals exact zp (by first|rfl|(rw[Xba,Qfv,hps,m])|(rw[Xba,Qfv,hps]))
 intro i v
 have y:=Qkp (a:=a) (fun p j=>(s p j).len.2) i v
 by_cases f:i<ps.length
 ·have d:=Ql9 (a:=a) f
  have j:=s _ (QE f)
  have w:=j.len
  generalize hpe:nth ps i=p at d j w
  have c:=JN p
  generalize tmL a (ps.take i)=o at d y ⊢
  repeat'(first|(refine zhm fun hb=>?_;try exact zab)|refine Qd ?_|(apply zch;exact zcg)|exact zhk|refine zg3 ?_ ?_|intro _)
  refine Qa (fun(k:Nat)=>⟨50,[(1,zI a),(5,zL (intE (tmP a o (p.take k)))),(19,zL (Q7 ps)),(20,zI (ps.length:Nat)),(21,zI i),(26,zL (ptE p)),(27,zI (p.length:Nat)),(28,zI k)],[]⟩) (fun k=>k<=p.length) (fun k=>p.length-k) 0 (by exact Xae _) ?_ ?_
  ·refine⟨rfl,?_,?_,rfl⟩
   repeat'(first|exact ze3|refine ze2 ?_ ?_|refine ze4 ?_|exact ze5|fail)
   all_goals exact zp (by first|rfl|exact c|rw[<-hpe]|(rw[hpe];exact c))
  intro k hk
  have t:=Qky (a:=a) (p.take k) o
  rw[Xah]at t
  by_cases g:k<p.length
  ·have b:=Qtm (a:=a) (out:=o) g
   have ab:=(j.pts k g).1
   generalize tmP a o (p.take k)=q at b t ⊢
   unfold tmS at b
   have z:=WX (l:=q) (x:=(nth p k).at') (by omega)
   cases u:hasI q (nth p k).at' with
   | true=>
    rw[u]at z
    rw[u,if_neg (fun e=>by cases e.2)]at b
    repeat'(first|(refine zhm fun hb=>?_;try exact zab)|refine Qd ?_|(apply zch;exact zcg)|exact zhk|refine zg3 ?_ ?_|intro _)
    all_goals
     refine⟨k+1,by omega,by omega,?_⟩
     refine zag ?_;exact zp (by rw[b])
   | false=>
    rw[u]at z
    rw[u]at b
    repeat'(first|(refine zhm fun hb=>?_;try exact zab)|refine Qd ?_|(apply zch;exact zcg)|exact zhk|refine zg3 ?_ ?_|(refine km [] (QiF (l:=q) (n:=(nth p k).at') (by omega)) rfl rfl (fun i v=>?_);try dsimp only at v)|intro _)
    ·rw[if_pos ⟨by assumption,rfl⟩]at b
     refine⟨k+1,by omega,by omega,?_⟩
     refine zag ?_;exact zp (by rw[b])
    ·rw[if_neg (fun e=>by have:=e.1;omega)]at b
     refine⟨k+1,by omega,by omega,?_⟩
     refine zag ?_;exact zp (by rw[b])
  ·obtain rfl:k=p.length:=by omega
   rw[Xal]at *
   repeat'(first|(refine zhm fun hb=>?_;try exact zab)|refine Qd ?_|(apply zch;exact zcg)|exact zhk|refine zg3 ?_ ?_|intro _)
   refine⟨i+1,by omega,by omega,?_⟩
   refine zag ?_;exact zp (by rw[d])
 ·obtain rfl:i=ps.length:=by omega
  rw[Xal]at *
  repeat'(first|(refine zhm fun hb=>?_;try exact zab)|refine Q2 ?_|(apply zch;exact zcg)|exact zhk|refine zg3 ?_ ?_|intro _)
  exact zDR

theorem Qt1{r:Jn}{j:Job}{t:Int}(h:Q6 r)(hj:Qm j=true)(ht:0<=t/\t<=1000000000):DC Tryz.prog 276 [Ws r,jobA j,zI t] (optI (canO r j t)):=by
 refine zMC func276 fun w0 Z O=>?_
 have hs:=h.small
 obtain⟨p,j2⟩:=YA hj
 have o:=h.lics.len
 have f:=QdO (l:=r.lics) (a:=t) (b:=t+j.wall) (by omega)
 rw[JE.2 h.lics,XbD]at f
 have g:=QeD (a:=j.lic) (b:=VK r.lics t (t+j.wall))
 by_cases i:t+j.wall<=1000000000
 ·have c:Vm t (t+j.wall)=true:=Vc.2 ⟨by omega,by omega,by omega⟩
  rw[c]at f
  cases d:Za j.lic (VK r.lics t (t+j.wall)) with
  | false=>
   rw[d]at g
   rw[show canO r j t=none from if_neg (fun e=>by rw[d]at e;cases e.2)]
   repeat'(first|(refine zhm fun hb=>?_;try exact zab)|refine QgS ?_|(apply zch;exact zcg)|exact zhk|refine zg3 ?_ ?_|intro _)
   exact zDR
  | true=>
   rw[d]at g
   rw[show canO r j t=WJ r.topo (Qa3 r j.need t (t+j.wall)) j.nodes j.level from if_pos ⟨i,d⟩]
   have n:=QiH (r:=r) (need:=j.need) (a:=t) (b:=t+j.wall)
   have k:=QnY (need:=j.need) h c
   have m:=Qsd (most:=j.level) h.topo (Qgt h (need:=j.need) (a:=t) (b:=t+j.wall)) Qqt p.1 (by omega)
   repeat'(first|(apply QY 4;kernel_rfl;exact rfl)|(refine zhm fun hb=>?_;try exact zab)|refine QgS ?_|(apply zch;exact zcg)|exact zhk|refine zg3 ?_ ?_|refine kmu k ?_|refine kmu m ?_|intro _)
   exact zDR
 ·rw[show canO r j t=none from if_neg (fun e=>i e.1)]
  have c:Vm t (t+j.wall)=false:=by
   cases e:Vm t (t+j.wall) with
   | false=>rfl
   | true=>have:=Vc.1 e;omega
  rw[c]at f
  repeat'(first|(refine zhm fun hb=>?_;try exact zab)|refine QgS ?_|(apply zch;exact zcg)|exact zhk|refine zg3 ?_ ?_|intro _)
  exact zDR
theorem Qcf{r:Jn}{j:Job}{a:Int}(h:Q6 r)(hj:Qm j=true)(ha:0<=a/\a<=1000000000):DC Tryz.prog 215 [Ws r,jobA j,zI a] (earA (earO r j a)):=by
 refine zMC func215 fun w0 Z O=>?_
 have c0:=Qdl h
 have m:=Qe6 (j:=j)
 rw[hj]at m
 have n:=Wh (x:=a)
 rw[show inB a 0 1000000000=true from J4.mpr ha]at n
 have q:=QlQ h a
 have f:=Qki h ha
 have o:=QnH (a:=a) h
 unfold earO
 generalize timR r a=ts at *
 have p:=Qc ts
 repeat'(first|(refine zhm fun hb=>?_;try exact zab)|refine zUtp ?_|refine zg2 ?_ ?_|refine kmu o ?_|intro _)
 refine Qa (fun(i:Nat)=>⟨45,[(3,.ptr 3 0),(4,.ptr 4 0),(28,zL (intE ts)),(29,zI (ts.length:Nat)),(30,zI i)],[(3,.box 180 (QbV r)),(4,.box 40 ((jobD j).map AV.d))]⟩) (fun i=>i<=ts.length/\Qai r j (ts.drop i)=Qai r j ts) (fun i=>ts.length-i) 0 (by exact⟨Xae _,rfl⟩) ?_ ?_
 ·exact zll
 rintro k ⟨hk,b⟩
 by_cases c:k<ts.length
 ·have s:=f _ (QE c)
  rw[QdF c,Qai]at b
  have e:=Qt1 (t:=nth ts k) h hj (by omega)
  cases g:canO r j (nth ts k) with
  | none=>
   rw[g]at b e
   dsimp only at b
   repeat'(first|(refine zhm fun hb=>?_;try exact zab)|refine zUtp ?_|refine zg2 ?_ ?_|refine kmu e ?_|intro _)
   refine⟨k+1,⟨by omega,b⟩,by omega,?_⟩
   exact zll
  | some l=>
   rw[g]at b e
   dsimp only at b
   rw[<-b]
   repeat'(first|(refine zhm fun hb=>?_;try exact zab)|refine zUrp ?_|refine zg2 ?_ ?_|refine kmu e ?_|intro _)
   exact zDR
 ·rw[Xbb (by omega),Qai]at b
  rw[<-b]
  repeat'(first|(refine zhm fun hb=>?_;try exact zab)|refine zUrp ?_|refine zg2 ?_ ?_|intro _)
  exact zDR

def tnP(a:Int)(out:List Int)(p:List Pt):List Int:=p.foldl (fun o x=>if a<x.at' then o++[x.at']else o) out
def tnL(a:Int)(ps:List (List Pt)):List Int:=ps.foldl (tnP a) [a]
theorem QsX{a:Int}{out:List Int}{p:List Pt}{i:Nat}(h:i<p.length):tnP a out (p.take (i+1))=if a<(nth p i).at' then tnP a out (p.take i)++[(nth p i).at']else tnP a out (p.take i):=by
 rw[QF h,tnP,XaN]
 rfl
theorem Qmg{a:Int}{ps:List (List Pt)}{i:Nat}(h:i<ps.length):tnL a (ps.take (i+1))=tnP a (tnL a (ps.take i)) (nth ps i):=by
 rw[QF h,tnL,XaN]
 rfl
theorem Qka{a:Int}:∀(p:List Pt) (out:List Int),(tnP a out p).length<=out.length+p.length
 | [],out=>Xaj _
 | x::p,out=>by
  have h:=Qka (a:=a) p (if a<x.at' then out++[x.at']else out)
  have h2:(if a<x.at' then out++[x.at']else out).length<=out.length+1:=by
   split
   ·simp
   ·omega
  show(tnP a (if a<x.at' then out++[x.at']else out) p).length<=_
  rw[Xap]
  omega
theorem Qo5{a:Int}{ps:List (List Pt)}(h:∀p∈ps,p.length<=200):∀(i:Nat),i<=ps.length->(tnL a (ps.take i)).length<=1+200*i
 | 0,_=>by simp[tnL]
 | i+1,hi=>by
  have h1:=Qo5 (a:=a) h i (by omega)
  have h2:=h _ (QE (show i<ps.length by omega))
  rw[Qmg (by omega)]
  have:=Qka (a:=a) (nth ps i) (tnL a (ps.take i))
  omega
theorem Qo2{a y:Int}:∀{p:List Pt} {out:List Int},y∈tnP a out p↔y∈out\/∃x∈p,a<x.at'/\y=x.at'
 | [],out=>by simp[tnP]
 | x::p,out=>by
  rw[show tnP a out (x::p)=tnP a (if a<x.at' then out++[x.at']else out) p from rfl,Qo2]
  have h2:y∈(if a<x.at' then out++[x.at']else out)↔y∈out\/a<x.at'/\y=x.at':=by
   split
   ·rename_i h;simp[h]
   ·rename_i h;simp[h]
  rw[h2]
  constructor
  ·rintro ((h|h)|⟨z,hz,h⟩)
   ·exact .inl h
   ·exact .inr ⟨x,Xaa,h⟩
   ·exact .inr ⟨z,Xad _ hz,h⟩
  ·rintro (h|⟨z,hz,h⟩)
   ·exact .inl (.inl h)
   ·rcases Xai.1 hz with rfl|hz
    ·exact .inl (.inr h)
    ·exact .inr ⟨z,hz,h⟩
theorem QqN{a y:Int}:∀{ps:List (List Pt)} {out:List Int},y∈ps.foldl (tnP a) out↔y∈out\/∃p∈ps,∃x∈p,a<x.at'/\y=x.at'
 | [],out=>by simp
 | p::ps,out=>by
  rw[Xa4,QqN,Qo2]
  constructor
  ·rintro ((h|h)|⟨z,hz,h⟩)
   ·exact .inl h
   ·exact .inr ⟨p,Xaa,h⟩
   ·exact .inr ⟨z,Xad _ hz,h⟩
  ·rintro (h|⟨z,hz,h⟩)
   ·exact .inl (.inl h)
   ·rcases Xai.1 hz with rfl|hz
    ·exact .inl (.inr h)
    ·exact .inr ⟨z,hz,h⟩
theorem Qwv(r:Jn)(a:Int):cmpL (srtI (tnL a ([r.lics]++r.profs)))=timR r a:=by
 obtain⟨c,d⟩:=Qgx r a
 obtain⟨e,f⟩:=Ql7 (Qkn (tnL a ([r.lics]++r.profs)))
 refine QbQ e c fun y=>?_
 rw[f,Ql8,d,show tnL a ([r.lics]++r.profs)=([r.lics]++r.profs).foldl (tnP a) [a] from rfl,QqN,XaH]
 refine or_congr_right ⟨?_,?_⟩
 ·rintro ⟨p,b,h⟩
  exact⟨p,by rcases Xag.1 b with b|b <;> simp_all,h⟩
 ·rintro ⟨p,b,h⟩
  exact⟨p,by rcases Xag.1 b with b|b <;> simp_all,h⟩
theorem QfK{r:Jn}{j:Job}:∀{ts:List Int},(∀t∈ts,canO r j t=none)->Qai r j ts=none
 | [],_=>rfl
 | t::ts,h=>by
  rw[Qai,h t Xaa]
  exact QfK fun t ht=>h t (Xad _ ht)
theorem QuT{ts:List Int}(h:risI ts){k:Nat}(hk:k<ts.length):∀t∈ts.drop k,nth ts k<=t:=fun t ht=>by
 obtain⟨i,a,rfl⟩:=Xbh ht
 rw[List.getElem_drop,Jd hk]
 rw[XaP]at a
 by_cases e:i=0
 ·subst e;simp
 ·have:=Xa9.1 h k (k+i) hk (by omega) (by omega)
  omega
theorem QdM(l:List (List Pt))(p:List Pt):[[.sl (ptE p)]]++Q7 l=Q7 ([p]++l):=by simp[Q7]
@[reducible] def earR (o:Option (Int×List Int)):List AV:=match o with
 | none=>[zI 0,zL [],.d (.b false)]
 | some x=>[zI x.1,.row 0,.d (.b true)]
@[reducible] def earB (o:Option (Int×List Int)):List (Nat×AO):=match o with
 | none=>[]
 | some x=>[(0,.row 3 (intE x.2) true)]
theorem Qga{r:Jn}{j:Job}{a:Int}(h:Q6 r)(hj:Qm j=true)(ha:0<=a/\a<=1000000000):MCalls Tryz.prog 205 [Ws r,jobA j,zI a] [] (fun _:Unit=>True) (fun _=>earR (earO r j a)) (fun _=>[]) (fun _=>earB (earO r j a)):=by
 refine zMC func205 fun w0 Z O=>?_
 have hs:=h.small
 obtain⟨j1,j2⟩:=YA hj
 have c0:=Qde h
 have c1:=Xf (j:=j)
 rw[hj]at c1
 have c2:=W7 (x:=a)
 rw[show inB a 0 1000000000=true from J4.mpr ha]at c2
 have ay:=QB r.profs
 have w:=QB ([r.lics]++r.profs)
 have au:([r.lics]++r.profs).length=r.profs.length+1:=by simp
 have y:∀p∈[r.lics]++r.profs,Jx p:=fun p m=>h.parts p (by rcases Xag.1 m with m|m <;> simp_all)
 have ad:=Qwv r a
 have ao:=QlQ h a
 have aj:=Qki h ha
 have v:=(Qgx r a).1
 unfold earO
 generalize timR r a=ts at *
 have ax:=Qc ts
 repeat'(first|(refine zhm fun hb=>?_;try exact zab)|refine Qd ?_|(apply zch;exact zcg)|exact zhk|refine zg3 ?_ ?_|intro _)
 refine Qp 35 rfl ?_
 generalize hps:[r.lics]++r.profs=ps at *
 refine Qa (fun(i:Nat)=>⟨111,[(2,zI a),(3,.ptr 3 0),(4,.ptr 4 0),(9,.row 32),(38,zL (Q7 ps)),(39,zI (ps.length:Nat)),(40,zI i)],[(3,.box 180 (QbV r)),(4,.box 40 ((jobD j).map AV.d)),(32,.row 3 (intE (tnL a (ps.take i))) true)]⟩) (fun i=>i<=ps.length) (fun i=>ps.length-i) 0 (by exact Xae _) ?_ ?_
 ·refine⟨rfl,?_,?_,rfl⟩
  repeat'(first|exact ze3|refine ze2 ?_ ?_|refine ze4 ?_|exact ze5|fail)
  all_goals exact zp (by first|rfl|(rw[QdM,hps,w])|(rw[QdM,hps]))
 intro q hq
 have ak:=Qo5 (a:=a) (fun p m=>(y p m).len.2) q hq
 by_cases z:q<ps.length
 ·have s:=Qmg (a:=a) z
  have m:=y _ (QE z)
  have ai:=m.len
  generalize hpe:nth ps q=p at s m ai
  have n:=JN p
  generalize tnL a (ps.take q)=o at s ak ⊢
  repeat'(first|(refine zhm fun hb=>?_;try exact zab)|refine Qd ?_|(apply zch;exact zcg)|exact zhk|refine zg3 ?_ ?_|intro _)
  refine Qa (fun(k:Nat)=>⟨111,[(2,zI a),(3,.ptr 3 0),(4,.ptr 4 0),(9,.row 32),(38,zL (Q7 ps)),(39,zI (ps.length:Nat)),(40,zI q),(45,zL (ptE p)),(46,zI (p.length:Nat)),(47,zI k)],[(3,.box 180 (QbV r)),(4,.box 40 ((jobD j).map AV.d)),(32,.row 3 (intE (tnP a o (p.take k))) true)]⟩) (fun k=>k<=p.length) (fun k=>p.length-k) 0 (by exact Xae _) ?_ ?_
  ·refine⟨rfl,?_,?_,rfl⟩
   repeat'(first|exact ze3|refine ze2 ?_ ?_|refine ze4 ?_|exact ze5|fail)
   all_goals exact zp (by first|rfl|exact n|rw[<-hpe]|(rw[hpe];exact n))
  intro k hk
  have ac:=Qka (a:=a) (p.take k) o
  rw[Xah]at ac
  by_cases g:k<p.length
  ·have f:=QsX (a:=a) (out:=o) g
   generalize tnP a o (p.take k)=u at f ac ⊢
   repeat'(first|(refine zhm fun hb=>?_;try exact zab)|refine Qd ?_|(apply zch;exact zcg)|exact zhk|refine zg3 ?_ ?_|intro _)
   ·rw[if_pos (by assumption)]at f
    refine⟨k+1,by omega,by omega,?_⟩
    refine⟨rfl,?_,?_,rfl⟩
    repeat'(first|exact ze3|refine ze2 ?_ ?_|refine ze4 ?_|exact ze5|fail)
    all_goals exact zp (by first|rfl|(rw[f];exact JG _ _))
   ·rw[if_neg (by assumption)]at f
    refine⟨k+1,by omega,by omega,?_⟩
    refine⟨rfl,?_,?_,rfl⟩
    repeat'(first|exact ze3|refine ze2 ?_ ?_|refine ze4 ?_|exact ze5|fail)
    all_goals exact zp (by first|rfl|rw[f])
  ·obtain rfl:k=p.length:=by omega
   rw[Xal]at *
   repeat'(first|(refine zhm fun hb=>?_;try exact zab)|refine Qd ?_|(apply zch;exact zcg)|exact zhk|refine zg3 ?_ ?_|intro _)
   refine⟨q+1,by omega,by omega,?_⟩
   refine⟨rfl,?_,?_,rfl⟩
   repeat'(first|exact ze3|refine ze2 ?_ ?_|refine ze4 ?_|exact ze5|fail)
   all_goals exact zp (by first|rfl|rw[s])
 obtain rfl:q=ps.length:=by omega
 rw[Xal]at *
 have aa:(tnL a ps).length<=1000000000:=by omega
 have ab:(srtI (tnL a ps)).length<=1000000000:=by rw[Yj];exact aa
 repeat'(first|(refine zhm fun hb=>?_;try exact zab)|refine Qd ?_|(apply zch;exact zcg)|exact zhk|refine zg3 ?_ ?_|(refine km [32] (Qqj (d:=true) aa) rfl rfl (fun i hi=>?_);try dsimp only at hi)|(refine km [32] (Qis ab) rfl rfl (fun i hi=>?_);try dsimp only at hi)|intro _)
 refine Qp 32 rfl ?_
 rw[ad]
 refine Qa (fun(k:Nat)=>⟨111,[(3,.ptr 3 0),(4,.ptr 4 0),(65,zL (intE ts)),(66,zI (ts.length:Nat)),(67,zI k)],[(3,.box 180 (QbV r)),(4,.box 40 ((jobD j).map AV.d))]⟩) (fun k=>k<=ts.length/\Qai r j (ts.drop k)=Qai r j ts) (fun k=>ts.length-k) 0 (by exact⟨Xae _,rfl⟩) ?_ ?_
 ·refine⟨rfl,?_,?_,rfl⟩
  repeat'(first|exact ze3|refine ze2 ?_ ?_|refine ze4 ?_|exact ze5|fail)
  all_goals first|exact zp rfl|exact zp (by have e:=QjG (srtI (tnL a ps));rw[ad]at e;exact e)
 rintro k ⟨hk,c⟩
 by_cases g:k<ts.length
 ·have a0:=aj _ (QE g)
  have ag:=QuT v g
  rw[QdF g,Qai]at c
  by_cases hw:nth ts k+j.wall<=1000000000
  ·have c3:=Qpj (a:=nth ts k) (b:=nth ts k+j.wall) h.lics
   have c4:=Qji (a:=j.lic) (b:=VK r.lics (nth ts k) (nth ts k+j.wall))
   cases hf:Za j.lic (VK r.lics (nth ts k) (nth ts k+j.wall)) with
   | false=>
    rw[hf]at c4
    rw[show canO r j (nth ts k)=none from if_neg (fun e=>by rw[hf]at e;cases e.2)]at c
    dsimp only at c
    repeat'(first|(refine zhm fun hb=>?_;try exact zab)|refine QxU ?_|(apply zch;exact zcg)|exact zhk|refine zg3 ?_ ?_|intro _)
    refine⟨k+1,⟨by omega,c⟩,by omega,?_⟩
    exact zll
   | true=>
    rw[hf]at c4
    rw[show canO r j (nth ts k)=WJ r.topo (Qa3 r j.need (nth ts k) (nth ts k+j.wall)) j.nodes j.level from if_pos ⟨hw,hf⟩]at c
    have av:=QiH (r:=r) (need:=j.need) (a:=nth ts k) (b:=nth ts k+j.wall)
    have c5:=Qne (need:=j.need) (a:=nth ts k) (b:=nth ts k+j.wall) h
    have c6:=Qsw (most:=j.level) h.topo (Qgt h (need:=j.need) (a:=nth ts k) (b:=nth ts k+j.wall)) j1.1 (by omega)
    cases hc:WJ r.topo (Qa3 r j.need (nth ts k) (nth ts k+j.wall)) j.nodes j.level with
    | none=>
     rw[hc]at c c6
     dsimp only at c
     repeat'(first|(apply QY 20;kernel_rfl;exact rfl)|(refine zhm fun hb=>?_;try exact zab)|refine QxU ?_|(apply zch;exact zcg)|exact zhk|refine zg3 ?_ ?_|refine kmu c5 ?_|(refine km [] (c6) rfl rfl (fun i hi=>?_);try dsimp only at hi)|intro _)
     refine⟨k+1,⟨by omega,c⟩,by omega,?_⟩
     exact zll
    | some l=>
     rw[hc]at c c6
     dsimp only at c
     rw[<-c]
     repeat'(first|(apply QY 20;kernel_rfl;exact rfl)|(refine zhm fun hb=>?_;try exact zab)|refine QgS ?_|(apply zch;exact zcg)|exact zhk|refine zg3 ?_ ?_|refine kmu c5 ?_|(refine km [] (c6) rfl rfl (fun i hi=>?_);try dsimp only at hi)|intro _)
     show AWp _ _ _ _
     refine QA ?_
     apply Qs
     exact zm () [104] trivial zae zae zae
  ·have ah:canO r j (nth ts k)=none:=if_neg (fun e=>hw e.1)
   rw[ah]at c
   dsimp only at c
   rw[QfK (fun t ht=>if_neg (fun e=>by have:=ag t (by rw[QdF g];exact Xad _ ht);omega))]at c
   rw[<-c]
   repeat'(first|(refine zhm fun hb=>?_;try exact zab)|refine QgS ?_|(apply zch;exact zcg)|exact zhk|refine zg3 ?_ ?_|intro _)
   exact zDR
 ·rw[Xbb (by omega),Qai]at c
  rw[<-c]
  repeat'(first|(refine zhm fun hb=>?_;try exact zab)|refine Q2 ?_|(apply zch;exact zcg)|exact zhk|refine zg3 ?_ ?_|intro _)
  exact zDR
theorem QnK{r:Jn}{j:Job}{a:Int}(h:Q6 r)(hj:Qm j=true)(ha:0<=a/\a<=1000000000):DC Tryz.prog 205 [Ws r,jobA j,zI a] (earA (earO r j a)):=by
 have:=dc_m (Qga h hj ha)
 cases b:earO r j a <;> rw[b]at this <;> exact this
theorem Qfy{r:Jn}{j:Job}:∀{ts:List Int} {x:Int×List Int},Qai r j ts=some x->x.1∈ts/\canO r j x.1=some x.2
 | [],x,h=>by cases h
 | t::ts,x,h=>by
  unfold Qai at h
  split at h
  ·rename_i l hl
   injection h with h
   subst h
   exact⟨Xaa,hl⟩
  ·obtain⟨h1,h2⟩:=Qfy h
   exact⟨Xad _ h1,h2⟩
theorem Qi1{r:Jn}{j:Job}{a:Int}{x:Int×List Int}(h:Q6 r)(hj:Qm j=true)(ha:0<=a/\a<=1000000000)(he:earO r j a=some x):(a<=x.1/\x.1<=1000000000)/\x.2.length<=24:=by
 obtain⟨c,b⟩:=Qfy he
 refine⟨Qki h ha _ c,?_⟩
 unfold canO at b
 split at b
 ·obtain⟨d,_⟩:=YA hj
  have:=Qn8 h.topo (Qgt h) d.1 b
  omega
 ·cases b
end
end Go.Proofs.YtkdniahincpmaaaGreat
