/-
  Placement: what is free least, the program's; the nodes that will do; both.
-/
import Derived.Test.YtkdniahincpmaaaGreatKB20
import Derived.Test.YtkdniahincpmaaaGreatKB14
set_option maxRecDepth 100000
set_option maxHeartbeats 16000000
namespace Go.Proofs.YtkdniahincpmaaaGreat
open Go Go.RowKit Tryz
section
attribute [local irreducible] AWp QI OpOk ACalls ChA QsOk MCalls EnC PY

theorem QuJ{l:List Pt}(h:Jy l):∀(k i:Nat),i+k+1<l.length->(nth l i).at'<(nth l (i+k+1)).at'
 | 0,i,hi=>(h.steps i hi).1
 | k+1,i,hi=>by
  have h1:=QuJ h k i (by omega)
  have h2:=(h.steps (i+k+1) hi).1
  rw[show i+(k+1)+1=i+k+1+1 by omega]
  omega
theorem QpI{l:List Pt}(h:Jy l){i j:Nat}(hij:i<j)(hj:j<l.length):(nth l i).at'<(nth l j).at':=by
 have:=QuJ h (j-i-1) i (by omega)
 rw[show i+(j-i-1)+1=j by omega]at this
 exact this
theorem Qlw{l:List Pt}(h:Jy l){i:Nat}(hi:i<l.length){a:Int}(ha:(nth l i).at'=a):∀(k:Nat),i+1+k<=l.length->QL (l.take (i+1+k)) a=(nth l i).free
 | 0,_=>by rw[XbL,WV hi,if_pos (by omega)]
 | k+1,hk=>by
  have h1:=QpI h (i:=i) (j:=i+1+k) (by omega) (by omega)
  rw[<-XbD,WV (by omega),if_neg (by omega)]
  exact Qlw h hi ha k (by omega)
theorem Qev{l:List Pt}{a b:Int}{v:V3}:∀(i:Nat),i<=l.length->(∀j,j<i->(nth l j).at'<a)->Xo (l.take i) a b v=v
 | 0,_,_=>by simp[Xo]
 | i+1,hi,h=>by
  have:=h i (by omega)
  rw[VL (by omega),if_neg (by omega)]
  exact Qev i (by omega) fun j hj=>h j (by omega)
theorem QoX{v:V3}(h:Qf v=true):minO v v=v:=by
 rw[QuD h h]
 cases v
 simp[minV]
def Qa3(l:List Pt)(a b:Int)(v0:V3):V3:=l.foldl (fun v x=>if a<x.at'/\x.at'<b then minO v x.free else v) v0
theorem Qes{l:List Pt}{i:Nat}(h:i<l.length)(a b:Int)(v0:V3):Qa3 (l.take (i+1)) a b v0=if a<(nth l i).at'/\(nth l i).at'<b then minO (Qa3 (l.take i) a b v0) (nth l i).free else Qa3 (l.take i) a b v0:=by
 rw[Qo h,Qa3,XaJ]
 rfl
theorem Qir{l:List Pt}(h:Jy l){a b:Int}:∀(i:Nat),i<=l.length->Qa3 (l.take i) a b (QL l a)=Xo (l.take i) a b (QL l a)
 | 0,_=>by simp[Qa3,Xo]
 | i+1,hi=>by
  have ih:=Qir h (a:=a) (b:=b) i (by omega)
  rw[Qes (by omega),VL (by omega),ih]
  by_cases h1:a<(nth l i).at'/\(nth l i).at'<b
  ·rw[if_pos h1,if_pos ⟨by omega,by omega⟩]
  ·rw[if_neg h1]
   by_cases h2:a<=(nth l i).at'/\(nth l i).at'<b
   ·rw[if_pos h2]
    have e:(nth l i).at'=a:=by omega
    have hf:=Qlw h (i:=i) (by omega) e (l.length-(i+1)) (by omega)
    rw[show i+1+(l.length-(i+1))=l.length by omega,Xak]at hf
    rw[Qev i (by omega) fun j hj=>by have:=QpI h hj (by omega);omega,hf,QoX (h.pts i (by omega)).2]
   ·rw[if_neg h2]
theorem QpX{l:List Pt}{a b:Int}(h:Jy l):zAc 263 [Qav l,zI a,zI b] [vecA (VI l a b)] []:=by
  refine zAC func263 fun w0 Z=>?_
  have k:=JN l
  have j:=h.len
  repeat'(first|(refine zhm fun hb=>?_;try exact zab)|refine zUtp ?_|refine zg2 ?_ ?_|refine kc (Qim (l:=l) (t:=a) (by omega)) rfl rfl ?_|intro _)
  refine Qa (fun(i:Nat)=>⟨36,[(1,zI a),(2,zI b),(6,.ptr 6 0),(7,.ptr 7 0),(14,zL (ptE l)),(15,zI (l.length:Nat)),(16,zI i)],[(6,.box 29 (vecC zV)),(7,.box 29 (vecC (Qa3 (l.take i) a b (QL l a))))]⟩) (fun i=>i<=l.length) (fun i=>l.length-i) 0 (by exact Xad _) ?_ ?_
  · exact zll
  intro i g
  by_cases f:i<l.length
  · have c:=Qes (a:=a) (b:=b) (v0:=QL l a) f
    by_cases e:a<(nth l i).at'/\(nth l i).at'<b
    · rw[if_pos e]at c
      obtain⟨m,n⟩:=e
      repeat'(first|(refine zhm fun hb=>?_;try exact zab)|refine zUtp ?_|refine zg2 ?_ ?_|refine kc (QsZ (a:=Qa3 (l.take i) a b (QL l a)) (b:=(nth l i).free)) rfl rfl ?_|intro _)
      refine⟨i+1,by omega,by omega,?_⟩
      refine⟨rfl,?_,?_,rfl⟩
      repeat'(first|exact ze3|refine ze2 ?_ ?_|refine ze4 ?_|exact ze5|fail)
      all_goals exact zp (by first|rfl|rw[c])
    · rw[if_neg e]at c
      repeat'(first|(refine zhm fun hb=>?_;try exact zab)|refine zUtp ?_|refine zg2 ?_ ?_|intro _)
      all_goals first
        | exact absurd ⟨by omega,by omega⟩ e
        | (refine⟨i+1,by omega,by omega,?_⟩
           refine⟨rfl,?_,?_,rfl⟩
           repeat'(first|exact ze3|refine ze2 ?_ ?_|refine ze4 ?_|exact ze5|fail)
           all_goals exact zp (by first|rfl|rw[c]))
  · have d:Qa3 (l.take i) a b (QL l a)=VI l a b:=by
      rw[Qir h i g,Xas (by omega)]
      rfl
    repeat'(first|(refine zhm fun hb=>?_;try exact zab)|refine zUtp ?_|refine zg2 ?_ ?_|intro _)
    refine zr [] ?_ ?_
    repeat'(first|exact ze3|refine ze2 ?_ ?_|refine ze4 ?_|exact ze5|fail)
    all_goals exact zp (by first|rfl|rw[d])
def elB(r:Jm)(need:V3)(a b:Int)(i:Nat):Bool:=nth r.up i&&Vk need (VI (nth r.profs i) a b)
def elU(r:Jm)(need:V3)(a b:Int)(i:Nat):List Int:=((List.range i).filter (elB r need a b)).map fun(i:Nat)=>(i:Int)
def Qbq(r:Jm)(need:V3)(a b:Int):List Int:=elU r need a b r.profs.length
theorem Qyr(r:Jm)(need:V3)(a b:Int)(i:Nat):elU r need a b (i+1)=if elB r need a b i=true then elU r need a b i++[(i:Int)]else elU r need a b i:=by
 unfold elU
 rw[Xb0,Xa9,XaG]
 split
 ·rename_i h;simp[h]
 ·rename_i h;simp[h]
theorem QjZ(r:Jm)(need:V3)(a b:Int)(i:Nat):(elU r need a b i).length<=i:=by
 unfold elU
 rw[XaB]
 exact Xal (Xa7 _ _) (by rw[List.length_range];exact Xaj _)

theorem Qhb{r:Jm}{need:V3}{a b:Int}{i:Nat}:elB r need a b i=true↔nth r.up i=true/\Vk need (VI (nth r.profs i) a b)=true:=by unfold elB;rw[Xab]
theorem Qn7{r:Jm}{need:V3}{a b:Int}(h:Q4 r):DC Tryz.prog 265 [Wq r,vecA need,zI a,zI b] [zL (intE (Qbq r need a b))]:=by
  refine zMC func265 fun w0 Z O=>?_
  have hs:=h.small
  have h1:=h.up
  have h2:=h.num
  have m:=QB r.profs
  have k:=Qx r.up
  repeat'(first|(refine zhm fun hb=>?_;try exact zab)|refine Qd ?_|(apply zch;exact zcg)|exact zhk|refine zg3 ?_ ?_|intro _)
  refine Qa (fun(i:Nat)=>⟨40,[(2,zI a),(3,zI b),(4,.ptr 4 0),(5,.ptr 5 0),(9,.row 12),(14,zL (Q8 r.profs)),(15,zI (r.profs.length:Nat)),(16,zI i)],[(4,.box 180 (Qb5 r)),(5,.box 29 (vecC need)),(12,.row 3 (intE (elU r need a b i)) true)]⟩) (fun i=>i<=r.profs.length) (fun i=>r.profs.length-i) 0 (by exact Xad _) ?_ ?_
  · exact zll
  intro i hi
  have l:=QjZ r need a b i
  by_cases g:i<r.profs.length
  · have c:=Qyr r need a b i
    have c1:=QpX (a:=a) (b:=b) (h.profs i g)
    have f:=Qbx (a:=need) (b:=VI (nth r.profs i) a b)
    cases e:elB r need a b i with
    | true=>
      rw[if_pos e]at c
      obtain⟨j,d⟩:=Qhb.1 e
      rw[d]at f
      repeat'(first|(refine zhm fun hb=>?_;try exact zab)|refine Qd ?_|(apply zch;exact zcg)|exact zhk|refine zg3 ?_ ?_|intro _)
      all_goals first
        | (rw[j]at hb;cases hb;done)
        | (refine⟨i+1,by omega,by omega,?_⟩
           refine⟨rfl,?_,?_,rfl⟩
           repeat'(first|exact ze3|refine ze2 ?_ ?_|refine ze4 ?_|exact ze5|fail)
           all_goals exact zp (by first|rfl|(rw[c];exact Ji _ _)))
    | false=>
      rw[if_neg (by rw[e];simp)]at c
      cases d:Vk need (VI (nth r.profs i) a b) with
      | true=>
        rw[d]at f
        repeat'(first|(refine zhm fun hb=>?_;try exact zab)|refine Qd ?_|(apply zch;exact zcg)|exact zhk|refine zg3 ?_ ?_|intro _)
        all_goals first
          | (have:=Qhb.2 ⟨hb,d⟩;rw[e]at this;cases this;done)
          | (refine⟨i+1,by omega,by omega,?_⟩
             refine⟨rfl,?_,?_,rfl⟩
             repeat'(first|exact ze3|refine ze2 ?_ ?_|refine ze4 ?_|exact ze5|fail)
             all_goals exact zp (by first|rfl|rw[c]))
      | false=>
        rw[d]at f
        repeat'(first|(refine zhm fun hb=>?_;try exact zab)|refine Qd ?_|(apply zch;exact zcg)|exact zhk|refine zg3 ?_ ?_|intro _)
        all_goals
          refine⟨i+1,by omega,by omega,?_⟩
          refine zag ?_;exact zp (by rw[c])
  · obtain rfl:i=r.profs.length:=by omega
    repeat'(first|(refine zhm fun hb=>?_;try exact zab)|refine QR ?_|(apply zch;exact zcg)|exact zhk|refine zg3 ?_ ?_|intro _)
    show AWp _ _ _ _
    refine Qr 12 rfl ?_
    exact zDR
theorem Qn6{r:Jm}{need:V3}{a b:Int}(h:Q4 r)(hs:Vx a b=true):DC Tryz.prog 308 [Wq r,vecA need,zI a,zI b] [zL (intE (Qbq r need a b))]:=by
  refine zMC func308 fun w0 Z O=>?_
  have s:=h.small
  have h1:=h.up
  have h2:=h.num
  have p:=QB r.profs
  have n:=Qx r.up
  have c0:=QdD h
  repeat'(first|(refine zhm fun hb=>?_;try exact zab)|refine zUtp ?_|refine zg2 ?_ ?_|intro _)
  refine Qa (fun(i:Nat)=>⟨54,[(2,zI a),(3,zI b),(4,.ptr 4 0),(5,.ptr 5 0),(9,.row 13),(20,zI (r.profs.length:Nat)),(21,zI i)],[(4,.box 180 (Qb5 r)),(5,.box 29 (vecC need)),(13,.row 3 (intE (elU r need a b i)) true)]⟩) (fun i=>i<=r.profs.length) (fun i=>r.profs.length-i) 0 (by exact Xad _) ?_ ?_
  · exact zll
  intro i hi
  have o:=QjZ r need a b i
  by_cases g:i<r.profs.length
  · have c:=Qyr r need a b i
    have j:=h.profs i g
    have q:=j.len
    have k:=Qfs (l:=nth r.profs i) (a:=a) (b:=b) (by omega)
    rw[JH.2 j,hs,Bool.and_self]at k
    have f:=QdO (a:=need) (b:=VI (nth r.profs i) a b)
    cases e:elB r need a b i with
    | true=>
      rw[if_pos e]at c
      obtain⟨m,d⟩:=Qhb.1 e
      rw[d]at f
      repeat'(first|(refine zhm fun hb=>?_;try exact zab)|refine zUtp ?_|refine zg2 ?_ ?_|intro _)
      all_goals first
        | (rw[m]at hb;cases hb;done)
        | (refine⟨i+1,by omega,by omega,?_⟩
           refine⟨rfl,?_,?_,rfl⟩
           repeat'(first|exact ze3|refine ze2 ?_ ?_|refine ze4 ?_|exact ze5|fail)
           all_goals exact zp (by first|rfl|(rw[c];exact Ji _ _)))
    | false=>
      rw[if_neg (by rw[e];simp)]at c
      cases d:Vk need (VI (nth r.profs i) a b) with
      | true=>
        rw[d]at f
        repeat'(first|(refine zhm fun hb=>?_;try exact zab)|refine zUtp ?_|refine zg2 ?_ ?_|intro _)
        all_goals first
          | (have:=Qhb.2 ⟨hb,d⟩;rw[e]at this;cases this;done)
          | (refine⟨i+1,by omega,by omega,?_⟩
             refine⟨rfl,?_,?_,rfl⟩
             repeat'(first|exact ze3|refine ze2 ?_ ?_|refine ze4 ?_|exact ze5|fail)
             all_goals exact zp (by first|rfl|rw[c]))
      | false=>
        rw[d]at f
        repeat'(first|(refine zhm fun hb=>?_;try exact zab)|refine zUtp ?_|refine zg2 ?_ ?_|intro _)
        all_goals
          refine⟨i+1,by omega,by omega,?_⟩
          refine zag ?_;exact zp (by rw[c])
  · obtain rfl:i=r.profs.length:=by omega
    repeat'(first|(refine zhm fun hb=>?_;try exact zab)|refine zUrp ?_|refine zg2 ?_ ?_|intro _)
    show AWp _ _ _ _
    refine Qr 13 rfl ?_
    exact zDR

theorem Qw8{r:Jm}{need:V3}{a b:Int}(i:Nat):risI (elU r need a b i):=by
 unfold risI elU
 rw[Xbp]
 exact(List.pairwise_lt_range.filter _).imp fun h=>by omega
theorem QoR{r:Jm}{need:V3}{a b:Int}{x:Int}(h:x∈Qbq r need a b):0<=x/\x<r.profs.length:=by
 obtain⟨i,c,rfl⟩:=Xaf.1 h
 have:=XbE.1 (Xay.1 c).1
 omega
theorem QhD{r:Jm}(h:Q4 r){need:V3}{a b:Int}:Jp r.topo (Qbq r need a b):=WS.2 fun x hx=>by
 have:=QoR hx
 have:=h.num
 omega
theorem QpY{r:Jm}{need:V3}{a b:Int}:ascP (Qbq r need a b):=fun j hj=>by
 have h:=Xbc.1 (Qw8 (r:=r) (need:=need) (a:=a) (b:=b) r.profs.length) j (j+1) (by show j<(Qbq r need a b).length;omega) hj (by omega)
 rw[Jb (by omega),Jb hj]
 exact h
theorem QjQ{r:Jm}{need:V3}{a b:Int}:(Qbq r need a b).length<=r.profs.length:=QjZ _ _ _ _ _
def tmS(a:Int)(out:List Int)(x:Int):List Int:=if a<x/\hasI out x=false then rise x out else out
def tmP(a:Int)(out:List Int)(p:List Pt):List Int:=p.foldl (fun o x=>tmS a o x.at') out
def tmL(a:Int)(ps:List (List Pt)):List Int:=ps.foldl (tmP a) [a]
theorem Qr7{a:Int}{out:List Int}{p:List Pt}{i:Nat}(h:i<p.length):tmP a out (p.take (i+1))=tmS a (tmP a out (p.take i)) (nth p i).at':=by
 rw[Qo h,tmP,XaJ]
 rfl
theorem Ql2{a:Int}{ps:List (List Pt)}{i:Nat}(h:i<ps.length):tmL a (ps.take (i+1))=tmP a (tmL a (ps.take i)) (nth ps i):=by
 rw[Qo h,tmL,XaJ]
 rfl
theorem Qkw{a:Int}:∀(p:List Pt) (out:List Int),(tmP a out p).length<=out.length+p.length
 | [],out=>Xaj _
 | x::p,out=>by
  have h:=Qkw (a:=a) p (tmS a out x.at')
  have h2:(tmS a out x.at').length<=out.length+1:=by
   unfold tmS
   split
   ·rw[Qdn];exact Xaj _
   ·omega
  show(tmP a (tmS a out x.at') p).length<=_
  rw[Xao]
  omega
theorem Qj6{a:Int}{ps:List (List Pt)}(h:∀p∈ps,p.length<=200):∀(i:Nat),i<=ps.length->(tmL a (ps.take i)).length<=1+200*i
 | 0,_=>by simp[tmL]
 | i+1,hi=>by
  have h1:=Qj6 (a:=a) h i (by omega)
  have h2:=h _ (QC (show i<ps.length by omega))
  rw[Ql2 (by omega)]
  have:=Qkw (a:=a) (nth ps i) (tmL a (ps.take i))
  omega
theorem Qdb{n x:Int}:∀{l:List Int},x∈rise n l↔x=n\/x∈l
 | []=>by simp[rise]
 | y::l=>by
  unfold rise
  split
  ·simp
  ·rw[Xai,Qdb (l:=l),Xai]
   constructor
   ·rintro (h|h|h)
    ·exact .inr (.inl h)
    ·exact .inl h
    ·exact .inr (.inr h)
   ·rintro (h|h|h)
    ·exact .inr (.inl h)
    ·exact .inl h
    ·exact .inr (.inr h)
theorem Qm2{n:Int}:∀{l:List Int},risI l->n∉l->risI (rise n l)
 | [],_,_=>by simp[rise,risI]
 | y::l,h,hn=>by
  unfold risI at h
  have h':=Xav.1 h
  have hy:n≠y:=fun e=>hn (e▸Xac)
  unfold rise
  split
  ·rename_i hlt
   refine Xav.2 ⟨fun z hz=>?_,h⟩
   rcases Xai.1 hz with rfl|hz
   ·omega
   ·have:=h'.1 z hz;omega
  ·rename_i hlt
   refine Xav.2 ⟨fun z hz=>?_,Qm2 h'.2 fun e=>hn (Xae _ e)⟩
   rcases Qdb.1 hz with rfl|hz
   ·omega
   ·exact h'.1 z hz
theorem Qv0{a x:Int}{out:List Int}(h:risI out):risI (tmS a out x)/\∀y,y∈tmS a out x↔y∈out\/a<x/\y=x:=by
 unfold tmS
 split
 ·rename_i b
  have d:x∉out:=fun e=>by rw[W0.2 e]at b;cases b.2
  refine⟨Qm2 h d,fun y=>?_⟩
  rw[Qdb]
  exact⟨fun e=>e.elim (fun e=>.inr ⟨b.1,e⟩) .inl,fun e=>e.elim .inr fun e=>.inl e.2⟩
 ·rename_i b
  refine⟨h,fun y=>⟨.inl,fun e=>e.elim id fun e=>?_⟩⟩
  cases c:hasI out x with
  | true=>rw[e.2];exact W0.1 c
  | false=>exact absurd ⟨e.1,c⟩ b
theorem QqQ{a:Int}:∀{p:List Pt} {out:List Int},risI out->risI (tmP a out p)/\∀y,y∈tmP a out p↔y∈out\/∃x∈p,a<x.at'/\y=x.at'
 | [],out,h=>⟨h,fun y=>by simp[tmP]⟩
 | x::p,out,h=>by
  obtain⟨h1,h2⟩:=Qv0 (a:=a) (x:=x.at') h
  obtain⟨h3,h4⟩:=QqQ (a:=a) (p:=p) h1
  refine⟨h3,fun y=>?_⟩
  rw[show tmP a out (x::p)=tmP a (tmS a out x.at') p from rfl,h4,h2]
  constructor
  ·rintro ((h|h)|⟨z,hz,h⟩)
   ·exact .inl h
   ·exact .inr ⟨x,Xac,h⟩
   ·exact .inr ⟨z,Xae _ hz,h⟩
  ·rintro (h|⟨z,hz,h⟩)
   ·exact .inl (.inl h)
   ·rcases Xai.1 hz with rfl|hz
    ·exact .inl (.inr h)
    ·exact .inr ⟨z,hz,h⟩
theorem QqT{a:Int}:∀{ps:List (List Pt)} {out:List Int},risI out->risI (ps.foldl (tmP a) out)/\∀y,y∈ps.foldl (tmP a) out↔y∈out\/∃p∈ps,∃x∈p,a<x.at'/\y=x.at'
 | [],out,h=>⟨h,fun y=>by simp⟩
 | p::ps,out,h=>by
  obtain⟨h1,h2⟩:=QqQ (a:=a) (p:=p) h
  obtain⟨h3,h4⟩:=QqT (a:=a) (ps:=ps) h1
  refine⟨h3,fun y=>?_⟩
  rw[XaU,h4,h2]
  constructor
  ·rintro ((h|h)|⟨z,hz,h⟩)
   ·exact .inl h
   ·exact .inr ⟨p,Xac,h⟩
   ·exact .inr ⟨z,Xae _ hz,h⟩
  ·rintro (h|⟨z,hz,h⟩)
   ·exact .inl (.inl h)
   ·rcases Xai.1 hz with rfl|hz
    ·exact .inl (.inr h)
    ·exact .inr ⟨z,hz,h⟩
def timR(r:Jm)(a:Int):List Int:=tmL a (r.profs++[r.lics])
theorem QhI(r:Jm)(a:Int):risI (timR r a)/\∀y,y∈timR r a↔y=a\/∃p∈r.profs++[r.lics],∃x∈p,a<x.at'/\y=x.at':=by
 obtain⟨b,c⟩:=QqT (a:=a) (ps:=r.profs++[r.lics]) (out:=[a]) (by simp[risI])
 exact⟨b,fun y=>by rw[show timR r a=(r.profs++[r.lics]).foldl (tmP a) [a] from rfl,c,XaH]⟩
theorem Q4.parts{r:Jm}(h:Q4 r):∀p∈r.profs++[r.lics],Jy p:=fun p hp=>by
 rcases Xag.1 hp with hp|hp
 ·obtain⟨j,a,rfl⟩:=Jo hp
  exact h.profs j a
 ·rw[XaH.1 hp];exact h.lics
theorem QkE{r:Jm}(h:Q4 r){a:Int}(ha:0<=a/\a<=1000000000):∀y∈timR r a,a<=y/\y<=1000000000:=fun y hy=>by
 rcases((QhI r a).2 y).1 hy with rfl|⟨p,hp,x,hx,h1,rfl⟩
 ·omega
 ·obtain⟨j,b,rfl⟩:=Jo hx
  have:=((h.parts p hp).pts j b).1
  omega
theorem QlO{r:Jm}(h:Q4 r)(a:Int):(timR r a).length<=10000:=by
 have hs:=h.small
 have c:=Qj6 (a:=a) (fun p hp=>(h.parts p hp).len.2) (r.profs++[r.lics]).length (Xaj _)
 rw[Xak]at c
 have h2:(r.profs++[r.lics]).length<=25:=by rw[Xaa,Xap];omega
 show(tmL a _).length<=_
 omega
def canO(r:Jm)(j:Job)(t:Int):Option (List Int):=if t+j.wall<=1000000000/\Vk j.lic (VI r.lics t (t+j.wall))=true then WW r.topo (Qbq r j.need t (t+j.wall)) j.nodes j.level else none
def Qaw(r:Jm)(j:Job):List Int->Option (Int×List Int)
 | []=>none
 | t::ts=>match canO r j t with
  | some l=>some (t,l)
  | none=>Qaw r j ts
def earO(r:Jm)(j:Job)(a:Int):Option (Int×List Int):=Qaw r j (timR r a)
@[reducible] def earA (o:Option (Int×List Int)):List AV:=[zI ((o.map Prod.fst).getD 0),zL (intE ((o.map Prod.snd).getD [])),.d (.b o.isSome)]
theorem Qd5{l:List Int}{i:Nat}(h:i<l.length):l.drop i=nth l i::l.drop (i+1):=by rw[Jb h];exact Xbm h
theorem Qgr(l:List (List Pt))(p:List Pt):Q8 l++[[.sl (ptE p)]]=Q8 (l++[p]):=by simp[Q8]
theorem Qnk{r:Jm}{a:Int}(h:Q4 r):DC Tryz.prog 275 [Wq r,zI a] [zL (intE (timR r a))]:=by
 refine zMC func275 fun w0 Z O=>?_
 have hs:=h.small
 have ac:=QB r.profs
 have m:=QB (r.profs++[r.lics])
 have aa:(r.profs++[r.lics]).length=r.profs.length+1:=by simp
 have s:=h.parts
 unfold timR
 repeat'(first|(refine zhm fun hb=>?_;try exact zab)|(refine Qh 2 11 rfl ?_)|refine Qd ?_|(apply zch;exact zcg)|exact zhk|refine zg3 ?_ ?_|intro _)
 refine Qr 12 rfl ?_
 generalize hps:r.profs++[r.lics]=ps at *
 refine Qa (fun(i:Nat)=>⟨50,[(1,zI a),(5,zL (intE (tmL a (ps.take i)))),(19,zL (Q8 ps)),(20,zI (ps.length:Nat)),(21,zI i)],[]⟩) (fun i=>i<=ps.length) (fun i=>ps.length-i) 0 (by exact Xad _) ?_ ?_
 ·refine⟨rfl,?_,?_,rfl⟩
  repeat'(first|exact ze3|refine ze2 ?_ ?_|refine ze4 ?_|exact ze5|fail)
  all_goals exact zp (by first|rfl|(rw[XaR,Qgr,hps,m])|(rw[XaR,Qgr,hps]))
 intro i v
 have y:=Qj6 (a:=a) (fun p j=>(s p j).len.2) i v
 by_cases f:i<ps.length
 ·have d:=Ql2 (a:=a) f
  have j:=s _ (QC f)
  have w:=j.len
  generalize hpe:nth ps i=p at d j w
  have c:=JN p
  generalize tmL a (ps.take i)=o at d y ⊢
  repeat'(first|(refine zhm fun hb=>?_;try exact zab)|refine Qd ?_|(apply zch;exact zcg)|exact zhk|refine zg3 ?_ ?_|intro _)
  refine Qa (fun(k:Nat)=>⟨50,[(1,zI a),(5,zL (intE (tmP a o (p.take k)))),(19,zL (Q8 ps)),(20,zI (ps.length:Nat)),(21,zI i),(26,zL (ptE p)),(27,zI (p.length:Nat)),(28,zI k)],[]⟩) (fun k=>k<=p.length) (fun k=>p.length-k) 0 (by exact Xad _) ?_ ?_
  ·refine⟨rfl,?_,?_,rfl⟩
   repeat'(first|exact ze3|refine ze2 ?_ ?_|refine ze4 ?_|exact ze5|fail)
   all_goals exact zp (by first|rfl|exact c|rw[<-hpe]|(rw[hpe];exact c))
  intro k hk
  have t:=Qkw (a:=a) (p.take k) o
  rw[Xah]at t
  by_cases g:k<p.length
  ·have b:=Qr7 (a:=a) (out:=o) g
   have ab:=(j.pts k g).1
   generalize tmP a o (p.take k)=q at b t ⊢
   unfold tmS at b
   have z:=WY (l:=q) (x:=(nth p k).at') (by omega)
   cases u:hasI q (nth p k).at' with
   | true=>
    rw[u]at z
    rw[u,if_neg (fun e=>by cases e.2)]at b
    repeat'(first|(refine zhm fun hb=>?_;try exact zab)|refine Qd ?_|(apply zch;exact zcg)|exact zhk|refine zg3 ?_ ?_|intro _)
    all_goals
     refine⟨k+1,by omega,by omega,?_⟩
     refine zag ?_;exact zp (by rw[b])
   | false=>
    rw[u]at z
    rw[u]at b
    repeat'(first|(refine zhm fun hb=>?_;try exact zab)|refine Qd ?_|(apply zch;exact zcg)|exact zhk|refine zg3 ?_ ?_|(refine km [] (QiP (l:=q) (n:=(nth p k).at') (by omega)) rfl rfl (fun i v=>?_);try dsimp only at v)|intro _)
    ·rw[if_pos ⟨by assumption,rfl⟩]at b
     refine⟨k+1,by omega,by omega,?_⟩
     refine zag ?_;exact zp (by rw[b])
    ·rw[if_neg (fun e=>by have:=e.1;omega)]at b
     refine⟨k+1,by omega,by omega,?_⟩
     refine zag ?_;exact zp (by rw[b])
  ·obtain rfl:k=p.length:=by omega
   rw[Xak]at *
   repeat'(first|(refine zhm fun hb=>?_;try exact zab)|refine Qd ?_|(apply zch;exact zcg)|exact zhk|refine zg3 ?_ ?_|intro _)
   refine⟨i+1,by omega,by omega,?_⟩
   refine zag ?_;exact zp (by rw[d])
 ·obtain rfl:i=ps.length:=by omega
  rw[Xak]at *
  repeat'(first|(refine zhm fun hb=>?_;try exact zab)|refine QR ?_|(apply zch;exact zcg)|exact zhk|refine zg3 ?_ ?_|intro _)
  exact zDR

theorem Qsd{r:Jm}{j:Job}{t:Int}(h:Q4 r)(hj:Qk j=true)(ht:0<=t/\t<=1000000000):DC Tryz.prog 276 [Wq r,jobA j,zI t] (optI (canO r j t)):=by
 refine zMC func276 fun w0 Z O=>?_
 have hs:=h.small
 obtain⟨p,j2⟩:=YB hj
 have o:=h.lics.len
 have f:=Qfs (l:=r.lics) (a:=t) (b:=t+j.wall) (by omega)
 rw[JH.2 h.lics,Xbw]at f
 have g:=QdO (a:=j.lic) (b:=VI r.lics t (t+j.wall))
 by_cases i:t+j.wall<=1000000000
 ·have c:Vx t (t+j.wall)=true:=W4.2 ⟨by omega,by omega,by omega⟩
  rw[c]at f
  cases d:Vk j.lic (VI r.lics t (t+j.wall)) with
  | false=>
   rw[d]at g
   rw[show canO r j t=none from if_neg (fun e=>by rw[d]at e;cases e.2)]
   repeat'(first|(refine zhm fun hb=>?_;try exact zab)|refine QhJ ?_|(apply zch;exact zcg)|exact zhk|refine zg3 ?_ ?_|intro _)
   exact zDR
  | true=>
   rw[d]at g
   rw[show canO r j t=WW r.topo (Qbq r j.need t (t+j.wall)) j.nodes j.level from if_pos ⟨i,d⟩]
   have n:=QjQ (r:=r) (need:=j.need) (a:=t) (b:=t+j.wall)
   have k:=Qn6 (need:=j.need) h c
   have m:=Qtf (most:=j.level) h.topo (QhD h (need:=j.need) (a:=t) (b:=t+j.wall)) QpY p.1 (by omega)
   repeat'(first|(apply QP 4;kernel_rfl;exact rfl)|(refine zhm fun hb=>?_;try exact zab)|refine QhJ ?_|(apply zch;exact zcg)|exact zhk|refine zg3 ?_ ?_|refine kmu k ?_|refine kmu m ?_|intro _)
   exact zDR
 ·rw[show canO r j t=none from if_neg (fun e=>i e.1)]
  have c:Vx t (t+j.wall)=false:=by
   cases e:Vx t (t+j.wall) with
   | false=>rfl
   | true=>have:=W4.1 e;omega
  rw[c]at f
  repeat'(first|(refine zhm fun hb=>?_;try exact zab)|refine QhJ ?_|(apply zch;exact zcg)|exact zhk|refine zg3 ?_ ?_|intro _)
  exact zDR
theorem QcD{r:Jm}{j:Job}{a:Int}(h:Q4 r)(hj:Qk j=true)(ha:0<=a/\a<=1000000000):DC Tryz.prog 215 [Wq r,jobA j,zI a] (earA (earO r j a)):=by
 refine zMC func215 fun w0 Z O=>?_
 have c0:=QdD h
 have m:=Qeg (j:=j)
 rw[hj]at m
 have n:=Wl (x:=a)
 rw[show inB a 0 1000000000=true from JA.mpr ha]at n
 have q:=QlO h a
 have f:=QkE h ha
 have o:=Qnk (a:=a) h
 unfold earO
 generalize timR r a=ts at *
 have p:=Qc ts
 repeat'(first|(refine zhm fun hb=>?_;try exact zab)|refine zUtp ?_|refine zg2 ?_ ?_|refine kmu o ?_|intro _)
 refine Qa (fun(i:Nat)=>⟨45,[(3,.ptr 3 0),(4,.ptr 4 0),(28,zL (intE ts)),(29,zI (ts.length:Nat)),(30,zI i)],[(3,.box 180 (Qb5 r)),(4,.box 40 ((jobD j).map AV.d))]⟩) (fun i=>i<=ts.length/\Qaw r j (ts.drop i)=Qaw r j ts) (fun i=>ts.length-i) 0 (by exact⟨Xad _,rfl⟩) ?_ ?_
 ·exact zll
 rintro k ⟨hk,b⟩
 by_cases c:k<ts.length
 ·have s:=f _ (QC c)
  rw[Qd5 c,Qaw]at b
  have e:=Qsd (t:=nth ts k) h hj (by omega)
  cases g:canO r j (nth ts k) with
  | none=>
   rw[g]at b e
   dsimp only at b
   repeat'(first|(refine zhm fun hb=>?_;try exact zab)|refine zUtp ?_|refine zg2 ?_ ?_|refine kmu e ?_|intro _)
   refine⟨k+1,⟨by omega,b⟩,by omega,?_⟩
   exact zll
  | some l=>
   rw[g]at b e
   dsimp only at b
   rw[<-b]
   repeat'(first|(refine zhm fun hb=>?_;try exact zab)|refine zUrp ?_|refine zg2 ?_ ?_|refine kmu e ?_|intro _)
   exact zDR
 ·rw[Xbf (by omega),Qaw]at b
  rw[<-b]
  repeat'(first|(refine zhm fun hb=>?_;try exact zab)|refine zUrp ?_|refine zg2 ?_ ?_|intro _)
  exact zDR

def tnP(a:Int)(out:List Int)(p:List Pt):List Int:=p.foldl (fun o x=>if a<x.at' then o++[x.at']else o) out
def tnL(a:Int)(ps:List (List Pt)):List Int:=ps.foldl (tnP a) [a]
theorem Qtg{a:Int}{out:List Int}{p:List Pt}{i:Nat}(h:i<p.length):tnP a out (p.take (i+1))=if a<(nth p i).at' then tnP a out (p.take i)++[(nth p i).at']else tnP a out (p.take i):=by
 rw[Qo h,tnP,XaJ]
 rfl
theorem Qmf{a:Int}{ps:List (List Pt)}{i:Nat}(h:i<ps.length):tnL a (ps.take (i+1))=tnP a (tnL a (ps.take i)) (nth ps i):=by
 rw[Qo h,tnL,XaJ]
 rfl
theorem QkN{a:Int}:∀(p:List Pt) (out:List Int),(tnP a out p).length<=out.length+p.length
 | [],out=>Xaj _
 | x::p,out=>by
  have h:=QkN (a:=a) p (if a<x.at' then out++[x.at']else out)
  have h2:(if a<x.at' then out++[x.at']else out).length<=out.length+1:=by
   split
   ·simp
   ·omega
  show(tnP a (if a<x.at' then out++[x.at']else out) p).length<=_
  rw[Xao]
  omega
theorem QoE{a:Int}{ps:List (List Pt)}(h:∀p∈ps,p.length<=200):∀(i:Nat),i<=ps.length->(tnL a (ps.take i)).length<=1+200*i
 | 0,_=>by simp[tnL]
 | i+1,hi=>by
  have h1:=QoE (a:=a) h i (by omega)
  have h2:=h _ (QC (show i<ps.length by omega))
  rw[Qmf (by omega)]
  have:=QkN (a:=a) (nth ps i) (tnL a (ps.take i))
  omega
theorem QoK{a y:Int}:∀{p:List Pt} {out:List Int},y∈tnP a out p↔y∈out\/∃x∈p,a<x.at'/\y=x.at'
 | [],out=>by simp[tnP]
 | x::p,out=>by
  rw[show tnP a out (x::p)=tnP a (if a<x.at' then out++[x.at']else out) p from rfl,QoK]
  have h2:y∈(if a<x.at' then out++[x.at']else out)↔y∈out\/a<x.at'/\y=x.at':=by
   split
   ·rename_i h;simp[h]
   ·rename_i h;simp[h]
  rw[h2]
  constructor
  ·rintro ((h|h)|⟨z,hz,h⟩)
   ·exact .inl h
   ·exact .inr ⟨x,Xac,h⟩
   ·exact .inr ⟨z,Xae _ hz,h⟩
  ·rintro (h|⟨z,hz,h⟩)
   ·exact .inl (.inl h)
   ·rcases Xai.1 hz with rfl|hz
    ·exact .inl (.inr h)
    ·exact .inr ⟨z,hz,h⟩
theorem Qq4{a y:Int}:∀{ps:List (List Pt)} {out:List Int},y∈ps.foldl (tnP a) out↔y∈out\/∃p∈ps,∃x∈p,a<x.at'/\y=x.at'
 | [],out=>by simp
 | p::ps,out=>by
  rw[XaU,Qq4,QoK]
  constructor
  ·rintro ((h|h)|⟨z,hz,h⟩)
   ·exact .inl h
   ·exact .inr ⟨p,Xac,h⟩
   ·exact .inr ⟨z,Xae _ hz,h⟩
  ·rintro (h|⟨z,hz,h⟩)
   ·exact .inl (.inl h)
   ·rcases Xai.1 hz with rfl|hz
    ·exact .inl (.inr h)
    ·exact .inr ⟨z,hz,h⟩
theorem Qwj(r:Jm)(a:Int):cmpL (srtI (tnL a ([r.lics]++r.profs)))=timR r a:=by
 obtain⟨c,d⟩:=QhI r a
 obtain⟨e,f⟩:=Qlz (QkX (tnL a ([r.lics]++r.profs)))
 refine Qcc e c fun y=>?_
 rw[f,QmF,d,show tnL a ([r.lics]++r.profs)=([r.lics]++r.profs).foldl (tnP a) [a] from rfl,Qq4,XaH]
 refine or_congr_right ⟨?_,?_⟩
 ·rintro ⟨p,b,h⟩
  exact⟨p,by rcases Xag.1 b with b|b <;> simp_all,h⟩
 ·rintro ⟨p,b,h⟩
  exact⟨p,by rcases Xag.1 b with b|b <;> simp_all,h⟩
theorem Qf2{r:Jm}{j:Job}:∀{ts:List Int},(∀t∈ts,canO r j t=none)->Qaw r j ts=none
 | [],_=>rfl
 | t::ts,h=>by
  rw[Qaw,h t Xac]
  exact Qf2 fun t ht=>h t (Xae _ ht)
theorem QvZ{ts:List Int}(h:risI ts){k:Nat}(hk:k<ts.length):∀t∈ts.drop k,nth ts k<=t:=fun t ht=>by
 obtain⟨i,a,rfl⟩:=Xbn ht
 rw[List.getElem_drop,Jb hk]
 rw[XaL]at a
 by_cases e:i=0
 ·subst e;simp
 ·have:=Xbc.1 h k (k+i) hk (by omega) (by omega)
  omega
theorem Qem(l:List (List Pt))(p:List Pt):[[.sl (ptE p)]]++Q8 l=Q8 ([p]++l):=by simp[Q8]
@[reducible] def earR (o:Option (Int×List Int)):List AV:=match o with
 | none=>[zI 0,zL [],.d (.b false)]
 | some x=>[zI x.1,.row 0,.d (.b true)]
@[reducible] def earB (o:Option (Int×List Int)):List (Nat×AO):=match o with
 | none=>[]
 | some x=>[(0,.row 3 (intE x.2) true)]
theorem QfN{r:Jm}{j:Job}{a:Int}(h:Q4 r)(hj:Qk j=true)(ha:0<=a/\a<=1000000000):MCalls Tryz.prog 205 [Wq r,jobA j,zI a] [] (fun _:Unit=>True) (fun _=>earR (earO r j a)) (fun _=>[]) (fun _=>earB (earO r j a)):=by
 refine zMC func205 fun w0 Z O=>?_
 have hs:=h.small
 obtain⟨j1,j2⟩:=YB hj
 have c0:=Qdj h
 have c1:=XT (j:=j)
 rw[hj]at c1
 have c2:=Vc (x:=a)
 rw[show inB a 0 1000000000=true from JA.mpr ha]at c2
 have ay:=QB r.profs
 have w:=QB ([r.lics]++r.profs)
 have au:([r.lics]++r.profs).length=r.profs.length+1:=by simp
 have y:∀p∈[r.lics]++r.profs,Jy p:=fun p m=>h.parts p (by rcases Xag.1 m with m|m <;> simp_all)
 have ad:=Qwj r a
 have ao:=QlO h a
 have aj:=QkE h ha
 have v:=(QhI r a).1
 unfold earO
 generalize timR r a=ts at *
 have ax:=Qc ts
 repeat'(first|(refine zhm fun hb=>?_;try exact zab)|refine Qd ?_|(apply zch;exact zcg)|exact zhk|refine zg3 ?_ ?_|intro _)
 refine Qr 35 rfl ?_
 generalize hps:[r.lics]++r.profs=ps at *
 refine Qa (fun(i:Nat)=>⟨111,[(2,zI a),(3,.ptr 3 0),(4,.ptr 4 0),(9,.row 32),(38,zL (Q8 ps)),(39,zI (ps.length:Nat)),(40,zI i)],[(3,.box 180 (Qb5 r)),(4,.box 40 ((jobD j).map AV.d)),(32,.row 3 (intE (tnL a (ps.take i))) true)]⟩) (fun i=>i<=ps.length) (fun i=>ps.length-i) 0 (by exact Xad _) ?_ ?_
 ·refine⟨rfl,?_,?_,rfl⟩
  repeat'(first|exact ze3|refine ze2 ?_ ?_|refine ze4 ?_|exact ze5|fail)
  all_goals exact zp (by first|rfl|(rw[Qem,hps,w])|(rw[Qem,hps]))
 intro q hq
 have ak:=QoE (a:=a) (fun p m=>(y p m).len.2) q hq
 by_cases z:q<ps.length
 ·have s:=Qmf (a:=a) z
  have m:=y _ (QC z)
  have ai:=m.len
  generalize hpe:nth ps q=p at s m ai
  have n:=JN p
  generalize tnL a (ps.take q)=o at s ak ⊢
  repeat'(first|(refine zhm fun hb=>?_;try exact zab)|refine Qd ?_|(apply zch;exact zcg)|exact zhk|refine zg3 ?_ ?_|intro _)
  refine Qa (fun(k:Nat)=>⟨111,[(2,zI a),(3,.ptr 3 0),(4,.ptr 4 0),(9,.row 32),(38,zL (Q8 ps)),(39,zI (ps.length:Nat)),(40,zI q),(45,zL (ptE p)),(46,zI (p.length:Nat)),(47,zI k)],[(3,.box 180 (Qb5 r)),(4,.box 40 ((jobD j).map AV.d)),(32,.row 3 (intE (tnP a o (p.take k))) true)]⟩) (fun k=>k<=p.length) (fun k=>p.length-k) 0 (by exact Xad _) ?_ ?_
  ·refine⟨rfl,?_,?_,rfl⟩
   repeat'(first|exact ze3|refine ze2 ?_ ?_|refine ze4 ?_|exact ze5|fail)
   all_goals exact zp (by first|rfl|exact n|rw[<-hpe]|(rw[hpe];exact n))
  intro k hk
  have ac:=QkN (a:=a) (p.take k) o
  rw[Xah]at ac
  by_cases g:k<p.length
  ·have f:=Qtg (a:=a) (out:=o) g
   generalize tnP a o (p.take k)=u at f ac ⊢
   repeat'(first|(refine zhm fun hb=>?_;try exact zab)|refine Qd ?_|(apply zch;exact zcg)|exact zhk|refine zg3 ?_ ?_|intro _)
   ·rw[if_pos (by assumption)]at f
    refine⟨k+1,by omega,by omega,?_⟩
    refine⟨rfl,?_,?_,rfl⟩
    repeat'(first|exact ze3|refine ze2 ?_ ?_|refine ze4 ?_|exact ze5|fail)
    all_goals exact zp (by first|rfl|(rw[f];exact Ji _ _))
   ·rw[if_neg (by assumption)]at f
    refine⟨k+1,by omega,by omega,?_⟩
    refine⟨rfl,?_,?_,rfl⟩
    repeat'(first|exact ze3|refine ze2 ?_ ?_|refine ze4 ?_|exact ze5|fail)
    all_goals exact zp (by first|rfl|rw[f])
  ·obtain rfl:k=p.length:=by omega
   rw[Xak]at *
   repeat'(first|(refine zhm fun hb=>?_;try exact zab)|refine Qd ?_|(apply zch;exact zcg)|exact zhk|refine zg3 ?_ ?_|intro _)
   refine⟨q+1,by omega,by omega,?_⟩
   refine⟨rfl,?_,?_,rfl⟩
   repeat'(first|exact ze3|refine ze2 ?_ ?_|refine ze4 ?_|exact ze5|fail)
   all_goals exact zp (by first|rfl|rw[s])
 obtain rfl:q=ps.length:=by omega
 rw[Xak]at *
 have aa:(tnL a ps).length<=1000000000:=by omega
 have ab:(srtI (tnL a ps)).length<=1000000000:=by rw[Yj];exact aa
 repeat'(first|(refine zhm fun hb=>?_;try exact zab)|refine Qd ?_|(apply zch;exact zcg)|exact zhk|refine zg3 ?_ ?_|(refine km [32] (QrD (d:=true) aa) rfl rfl (fun i hi=>?_);try dsimp only at hi)|(refine km [32] (QiI ab) rfl rfl (fun i hi=>?_);try dsimp only at hi)|intro _)
 refine Qr 32 rfl ?_
 rw[ad]
 refine Qa (fun(k:Nat)=>⟨111,[(3,.ptr 3 0),(4,.ptr 4 0),(65,zL (intE ts)),(66,zI (ts.length:Nat)),(67,zI k)],[(3,.box 180 (Qb5 r)),(4,.box 40 ((jobD j).map AV.d))]⟩) (fun k=>k<=ts.length/\Qaw r j (ts.drop k)=Qaw r j ts) (fun k=>ts.length-k) 0 (by exact⟨Xad _,rfl⟩) ?_ ?_
 ·refine⟨rfl,?_,?_,rfl⟩
  repeat'(first|exact ze3|refine ze2 ?_ ?_|refine ze4 ?_|exact ze5|fail)
  all_goals first|exact zp rfl|exact zp (by have e:=Qi0 (srtI (tnL a ps));rw[ad]at e;exact e)
 rintro k ⟨hk,c⟩
 by_cases g:k<ts.length
 ·have a0:=aj _ (QC g)
  have ag:=QvZ v g
  rw[Qd5 g,Qaw]at c
  by_cases hw:nth ts k+j.wall<=1000000000
  ·have c3:=QpX (a:=nth ts k) (b:=nth ts k+j.wall) h.lics
   have c4:=Qbx (a:=j.lic) (b:=VI r.lics (nth ts k) (nth ts k+j.wall))
   cases hf:Vk j.lic (VI r.lics (nth ts k) (nth ts k+j.wall)) with
   | false=>
    rw[hf]at c4
    rw[show canO r j (nth ts k)=none from if_neg (fun e=>by rw[hf]at e;cases e.2)]at c
    dsimp only at c
    repeat'(first|(refine zhm fun hb=>?_;try exact zab)|refine Qxy ?_|(apply zch;exact zcg)|exact zhk|refine zg3 ?_ ?_|intro _)
    refine⟨k+1,⟨by omega,c⟩,by omega,?_⟩
    exact zll
   | true=>
    rw[hf]at c4
    rw[show canO r j (nth ts k)=WW r.topo (Qbq r j.need (nth ts k) (nth ts k+j.wall)) j.nodes j.level from if_pos ⟨hw,hf⟩]at c
    have av:=QjQ (r:=r) (need:=j.need) (a:=nth ts k) (b:=nth ts k+j.wall)
    have c5:=Qn7 (need:=j.need) (a:=nth ts k) (b:=nth ts k+j.wall) h
    have c6:=Qs9 (most:=j.level) h.topo (QhD h (need:=j.need) (a:=nth ts k) (b:=nth ts k+j.wall)) j1.1 (by omega)
    cases hc:WW r.topo (Qbq r j.need (nth ts k) (nth ts k+j.wall)) j.nodes j.level with
    | none=>
     rw[hc]at c c6
     dsimp only at c
     repeat'(first|(apply QP 20;kernel_rfl;exact rfl)|(refine zhm fun hb=>?_;try exact zab)|refine Qxy ?_|(apply zch;exact zcg)|exact zhk|refine zg3 ?_ ?_|refine kmu c5 ?_|(refine km [] (c6) rfl rfl (fun i hi=>?_);try dsimp only at hi)|intro _)
     refine⟨k+1,⟨by omega,c⟩,by omega,?_⟩
     exact zll
    | some l=>
     rw[hc]at c c6
     dsimp only at c
     rw[<-c]
     repeat'(first|(apply QP 20;kernel_rfl;exact rfl)|(refine zhm fun hb=>?_;try exact zab)|refine QhJ ?_|(apply zch;exact zcg)|exact zhk|refine zg3 ?_ ?_|refine kmu c5 ?_|(refine km [] (c6) rfl rfl (fun i hi=>?_);try dsimp only at hi)|intro _)
     show AWp _ _ _ _
     refine QA ?_
     apply Qu
     exact zm () [104] trivial zae zae zae
  ·have ah:canO r j (nth ts k)=none:=if_neg (fun e=>hw e.1)
   rw[ah]at c
   dsimp only at c
   rw[Qf2 (fun t ht=>if_neg (fun e=>by have:=ag t (by rw[Qd5 g];exact Xae _ ht);omega))]at c
   rw[<-c]
   repeat'(first|(refine zhm fun hb=>?_;try exact zab)|refine QhJ ?_|(apply zch;exact zcg)|exact zhk|refine zg3 ?_ ?_|intro _)
   exact zDR
 ·rw[Xbf (by omega),Qaw]at c
  rw[<-c]
  repeat'(first|(refine zhm fun hb=>?_;try exact zab)|refine QR ?_|(apply zch;exact zcg)|exact zhk|refine zg3 ?_ ?_|intro _)
  exact zDR
theorem QnI{r:Jm}{j:Job}{a:Int}(h:Q4 r)(hj:Qk j=true)(ha:0<=a/\a<=1000000000):DC Tryz.prog 205 [Wq r,jobA j,zI a] (earA (earO r j a)):=by
 have:=dc_m (QfN h hj ha)
 cases b:earO r j a <;> rw[b]at this <;> exact this
theorem QfT{r:Jm}{j:Job}:∀{ts:List Int} {x:Int×List Int},Qaw r j ts=some x->x.1∈ts/\canO r j x.1=some x.2
 | [],x,h=>by cases h
 | t::ts,x,h=>by
  unfold Qaw at h
  split at h
  ·rename_i l hl
   injection h with h
   subst h
   exact⟨Xac,hl⟩
  ·obtain⟨h1,h2⟩:=QfT h
   exact⟨Xae _ h1,h2⟩
theorem QjG{r:Jm}{j:Job}{a:Int}{x:Int×List Int}(h:Q4 r)(hj:Qk j=true)(ha:0<=a/\a<=1000000000)(he:earO r j a=some x):(a<=x.1/\x.1<=1000000000)/\x.2.length<=24:=by
 obtain⟨c,b⟩:=QfT he
 refine⟨QkE h ha _ c,?_⟩
 unfold canO at b
 split at b
 ·obtain⟨d,_⟩:=YB hj
  have:=Qny h.topo (QhD h) d.1 b
  omega
 ·cases b
end
end Go.Proofs.YtkdniahincpmaaaGreat
