/-
  Vectors: valid, VecAdd, VecSub, VecMin, VecFits, both.
-/
import Derived.Test.YtihgfennoalocaaGreatKB7
import Derived.Test.YtihgfennoalocaaGreatKB9
import Derived.Test.YtihgfennoalocaaGreatKB29
import Derived.Sort.OwnSortedInts
set_option maxRecDepth 100000
set_option maxHeartbeats 16000000
namespace Go.Proofs.YtihgfennoalocaaGreat
open Go Go.RowKit Tryz
section
attribute [local irreducible] AWp QJ OpOk ACalls ChA QsOk MCalls EnC PY

def addV(a b:V3):V3:=⟨a.a+b.a,a.b+b.b,a.c+b.c⟩
def Qik(a b:V3):V3:=⟨a.a-b.a,a.b-b.b,a.c-b.c⟩
def minV(a b:V3):V3:=⟨min a.a b.a,min a.b b.b,min a.c b.c⟩
def valO(a b v:V3):Option V3:=if(Qh a&&(Qh b&&Qh v))=true then some v else none
@[reducible] def resV (o:Option V3):List AV:=[vecA (o.getD zV),.d (.b o.isSome)]
def V9(a b:V3):Bool:=Qh a&&(Qh b&&(decide (a.a<=b.a)&&(decide (a.b<=b.b)&&decide (a.c<=b.c))))
def addO(a b:V3):Option V3:=valO a b (addV a b)
def subO(a b:V3):Option V3:=valO a b (Qik a b)
def minO(a b:V3):V3:=(valO a b (minV a b)).getD zV
theorem WG{v:V3}(h:Qh v=true):(0<=v.a/\v.a<=1000000)/\(0<=v.b/\v.b<=1000000)/\0<=v.c/\v.c<=1000000:=by
 simp only[Qh,Xaf,Yr]at h
 exact⟨h.1.1,h.1.2,h.2⟩
theorem QjD{v:V3}(h1:0<=v.a/\v.a<=1000000)(h2:0<=v.b/\v.b<=1000000)(h3:0<=v.c/\v.c<=1000000):Qh v=true:=by
 simp only[Qh,Xaf,Yr]
 exact⟨⟨h1,h2⟩,h3⟩
theorem QjM{a b v:V3}(h:Qh a=false\/Qh b=false\/Qh v=false):valO a b v=none:=by
 unfold valO
 rw[if_neg]
 rcases h with h|h|h <;> simp[h]
theorem Qo5{a b v:V3}(h1:Qh a=true)(h2:Qh b=true)(h3:Qh v=true):valO a b v=some v:=by
 unfold valO
 rw[if_pos]
 simp[h1,h2,h3]
theorem QtO{a b:V3}(h1:Qh a=true)(h2:Qh b=true):Qh (minV a b)=true:=by
 obtain⟨a1,a2,a3⟩:=WG h1
 obtain⟨b1,b2,b3⟩:=WG h2
 exact QjD (by simp only[minV];omega) (by simp only[minV];omega) (by simp only[minV];omega)
theorem Qr7{a b:V3}(h1:Qh a=true)(h2:Qh b=true):minO a b=minV a b:=by
 unfold minO
 rw[Qo5 h1 h2 (QtO h1 h2)]
 rfl
theorem QrW{a b:V3}(h:Qh a=false\/Qh b=false):minO a b=zV:=by
 unfold minO
 rw[QjM (h.imp id Or.inl)]
 rfl
theorem QdP{a b:V3}:V9 a b=true↔Qh a=true/\Qh b=true/\a.a<=b.a/\a.b<=b.b/\a.c<=b.c:=by
 simp only[V9,Xaf,decide_eq_true_eq]
theorem QuR{a b:V3}(h:V9 b a=true):subO a b=some (Qik a b):=by
 obtain⟨h1,h2,h3,h4,h5⟩:=QdP.1 h
 obtain⟨a1,a2,a3⟩:=WG h1
 obtain⟨b1,b2,b3⟩:=WG h2
 exact Qo5 h2 h1 (QjD (by simp only[Qik];omega) (by simp only[Qik];omega) (by simp only[Qik];omega))
theorem QrM{a b:V3}(h:V9 b a=false):subO a b=none:=by
 cases hb:(Qh a&&(Qh b&&Qh (Qik a b))) with
 | false=>unfold subO valO;rw[hb];rfl
 | true=>
  simp only[Xaf]at hb
  obtain⟨h1,h2,h3⟩:=hb
  obtain⟨c1,c2,c3⟩:=WG h3
  simp only[Qik]at c1 c2 c3
  rw[QdP.2 ⟨h2,h1,by omega,by omega,by omega⟩]at h
  cases h
theorem Qoq{a b v:V3}:zAc 300 [vecA a,vecA b,vecA v] (resV (valO a b v)) []:=by
 refine zAC func300 fun w0 Z=>?_
 repeat'(first|(refine zhm fun hb=>?_;try exact zab)|refine zUto ?_|refine zg2 ?_ ?_|refine kc (Yh (v:=a)) rfl rfl ?_|refine kc (Yh (v:=b)) rfl rfl ?_|refine kc (Yh (v:=v)) rfl rfl ?_|intro _|fail)
 ·rw[QjM (Or.inl (by assumption))]
  exact zrr
 ·rw[QjM (Or.inr (Or.inl (by assumption)))]
  exact zrr
 ·rw[QjM (Or.inr (Or.inr (by assumption)))]
  exact zrr
 ·rw[Qo5 (by assumption) (by assumption) (by assumption)]
  exact zrr
theorem Qrt{a b:V3}(ha:Qh a=true)(hb':Qh b=true):zAc 279 [vecA a,vecA b] (resV (subO a b)) []:=by
 refine zAC func279 fun w0 Z=>?_
 obtain⟨a1,a2,a3⟩:=WG ha
 obtain⟨b1,b2,b3⟩:=WG hb'
 repeat'(first|(refine zhm fun hb=>?_;try exact zab)|refine zUtn ?_|refine zg2 ?_ ?_|refine kc (Qoq (a:=a) (b:=b) (v:=Qik a b)) rfl rfl ?_|intro _|fail)
 exact zrr
theorem QqT{a b:V3}:zAc 303 [vecA a,vecA b] [vecA (minO a b)] []:=by
 refine zAC func303 fun w0 Z=>?_
 repeat'(first|(refine zhm fun hb=>?_;try exact zab)|refine zUto ?_|refine zg2 ?_ ?_|refine kc (Qoq (a:=a) (b:=b) (v:=minV a b)) rfl rfl ?_|intro _|fail)
 exact zrr
theorem Qii{a b:V3}:zAc 285 [vecA a,vecA b] [.d (.b (V9 a b))] []:=by
 refine zAC func285 fun w0 Z=>?_
 repeat'(first|(refine zhm fun hb=>?_;try exact zab)|refine zUto ?_|refine zg2 ?_ ?_|refine kc (Yh (v:=a)) rfl rfl ?_|refine kc (Yh (v:=b)) rfl rfl ?_|intro _|fail)
 all_goals
  refine zr [] ?_ ?_
  repeat'(first|exact ze3|refine ze2 ?_ ?_|refine ze4 ?_|exact ze5|fail)
  refine zp ?_
  first
   | done
   | (rw[Bool.eq_iff_iff];simp[V9, *];done)
   | (rw[Bool.eq_iff_iff];simp[V9, *];omega)
theorem QdB{a b:V3}:zAc 315 [vecA a,vecA b] [.d (.b (V9 a b))] []:=by
 refine zAC func315 fun w0 Z=>?_
 repeat'(first|(refine zhm fun hb=>?_;try exact zab)|refine zUto ?_|refine zg2 ?_ ?_|refine kc (JV (v:=a)) rfl rfl ?_|refine kc (JV (v:=b)) rfl rfl ?_|intro _|fail)
 all_goals
  refine zr [] ?_ ?_
  repeat'(first|exact ze3|refine ze2 ?_ ?_|refine ze4 ?_|exact ze5|fail)
  refine zp ?_
  first
   | done
   | (rw[Bool.eq_iff_iff];simp[V9, *];done)
   | (rw[Bool.eq_iff_iff];simp[V9, *];omega)
theorem Qce{a b:V3}:zAc 313 [vecA a,vecA b] (resV (subO a b)) []:=by
 refine zAC func313 fun w0 Z=>?_
 have hc:=QdB (a:=b) (b:=a)
 cases hf:V9 b a with
 | false=>
  rw[hf]at hc
  repeat'(first|(refine zhm fun hb=>?_;try exact zab)|refine zUto ?_|refine zg2 ?_ ?_|intro _|fail)
  rw[QrM hf]
  exact zrr
 | true=>
  rw[hf]at hc
  obtain⟨h1,h2,h3,h4,h5⟩:=QdP.1 hf
  obtain⟨a1,a2,a3⟩:=WG h1
  obtain⟨b1,b2,b3⟩:=WG h2
  repeat'(first|(refine zhm fun hb=>?_;try exact zab)|refine zUtn ?_|refine zg2 ?_ ?_|intro _|fail)
  rw[QuR hf]
  exact zrr
theorem QpY{a b:Int}:zAc 333 [zI a,zI b] [zI (min a b)] []:=by
 refine zAC func333 fun w0 Z=>?_
 repeat'(first|(refine zhm fun hb=>?_;try exact zab)|refine zUto ?_|refine zg2 ?_ ?_|intro _|fail)
 all_goals
  refine zr [] ?_ ?_
  repeat'(first|exact ze3|refine ze2 ?_ ?_|refine ze4 ?_|exact ze5|fail)
  all_goals exact zp (by omega)
theorem QpT{a b:V3}:zAc 310 [vecA a,vecA b] [vecA (minO a b)] []:=by
 refine zAC func310 fun w0 Z=>?_
 repeat'(first|(refine zhm fun hb=>?_;try exact zab)|refine Qb2 ?_|(apply zch;exact zcg)|exact zhk|refine zg3 ?_ ?_|refine kc (JV (v:=a)) rfl rfl ?_|refine kc (JV (v:=b)) rfl rfl ?_|refine zqd QpY ?_|refine kq (JV (v:=a)) rfl rfl ?_|refine kq (JV (v:=b)) rfl rfl ?_|intro _|fail)
 ·rw[QrW (Or.inl (by assumption))]
  exact zrr
 ·rw[QrW (Or.inr (by assumption))]
  exact zrr
 ·rw[Qr7 (by assumption) (by assumption)]
  exact zrr
end
section
attribute [local irreducible] AWp QJ OpOk ACalls ChA QsOk EnC PY

theorem Qeu(w:World)(r:Option Nat):w.grownBy w r:=⟨rfl,rfl,rfl,Xam _,fun _ _ _=>rfl⟩
theorem Qn3{l:List Int}{d:Bool}(hl:l.length<=1000000000):MCalls Tryz.prog 283 [.row 1000000] [(1000000,.row 3 (intE l) d)] (fun _:Unit=>True) (fun _=>[]) (fun _=>[(1000000,.row 3 (intE (srtI l)) d)]) (fun _=>[]):=by
 refine QlZ (z:=1) ti3.sized (QN fun _=>rfl) (QN fun _=>rfl) (JN (f:=fun(x:Int)=>[D.n .i64 x]) (fun _=>rfl) (J4 l)) (fun us w'=>Go.MuLone.run_callFunc_enter func283 rfl rfl us w') ?_
 intro w v us ho hr
 rw[WC hr,Qb]at ho
 rw[Qb]
 rcases ho.2 with ⟨hv,hn⟩|⟨g,cap,cur,hv,hbg,hg,hnc,hcm,hcs,htake⟩
 ·have hl0:l=[]:=Xbi.1 hn
  subst hl0;subst hv
  have hcon:=AnyM.slices_Sort_int_none Tryz.sortI none 0 w
  change Calls Tryz.prog 283 _ _ _ at hcon
  exact hcon.mono fun e w' ⟨he,hw⟩=>by
   subst hw
   have e0:srtI []=[]:=XaA (J4 [])
   rw[e0]
   exact⟨he,Qeu _ _,[],ho,rfl,rfl⟩
 ·subst hv
  rw[Nat.mul_one]at htake
  have hcon:=AnyM.slices_Sort_int Tryz.sortI g 0 cap l w (holds_of_blockI hg htake) (Array.getElem?_eq_some_iff.1 hg).1 (by omega)
  change Calls Tryz.prog 283 _ _ _ at hcon
  exact hcon.mono fun e w' ⟨he,n,os,hw⟩=>by
   subst hw
   exact⟨he,grownBy_sortedI _,(srtI l).map (Value.int .i64),ownsRow_sortedI (J4 l) (Xab _) hg hnc hcm hcs,QdI _ _⟩
theorem Qbu:∀(l:List Int) (x y:Int),Qbc x (l++[y])=Qbc x l++(if y=(x::l).getLast (by simp) then[] else[y])
 | [],x,y=>by
  simp only[Xa5,Qbc,List.getLast_singleton]
  rfl
 | z::l,x,y=>by
  simp only[Xbz,Qbc]
  by_cases hz:z=x
  ·subst hz
   rw[if_pos rfl,if_pos rfl,Qbu l z y]
   simp only[List.getLast_cons_cons]
   rfl
  ·rw[if_neg hz,if_neg hz,Qbu l z y,Xbz]
   simp only[List.getLast_cons_cons]
   rfl
theorem Zv{l:List Int}{m:Nat}(h1:1<=m)(h2:m<l.length):cmpL (l.take (m+1))=cmpL (l.take m)++(if nth l m=nth l (m-1) then[] else[nth l m]):=by
 rw[XbZ,List.getElem?_eq_getElem h2,<-Ja h2]
 cases l with
 | nil=>simp at h2
 | cons x l=>
  obtain⟨k,rfl⟩:∃k,m=k+1:=⟨m-1,by omega⟩
  simp only[Xcx,Option.toList_some,Xbz,cmpL]
  rw[Qbu]
  have e:(x::l.take k).getLast (by simp)=nth (x::l) (k+1-1):=by
   rw[Ja (by omega),List.getLast_eq_getElem]
   simp only[Xar,Xai,Xcc]
   have:min k l.length=k:=by simp at h2;omega
   cases k with
   | zero=>simp
   | succ k=>simp[this]
  rw[e]
theorem Qkq{l:List Int}(h:1<=l.length):cmpL (l.take 1)=l.take 1:=by
 cases l with
 | nil=>simp at h
 | cons x l=>simp[cmpL,Qbc]
theorem Qky(l:List Int):∀m,m<=l.length->(cmpL (l.take m)).length<=m
 | 0,_=>by simp[cmpL]
 | m+1,h=>by
  by_cases h0:m=0
  ·subst h0;rw[Qkq (by omega)];simp;omega
  ·rw[Zv (by omega) (by omega),Xac]
   have:=Qky l m (by omega)
   split <;> simp <;> omega
def cpA(l:List Int)(i:Nat):Prop:=(1<=i/\i<=l.length)/\cmpL (l.take i)=l.take i
def cpB(l:List Int)(k0:Nat)(x:List Int×Nat×Nat):Prop:=
 (1<=x.2.2/\x.2.2<=l.length-k0/\x.1.length=l.length/\1<=x.2.1/\x.2.1+1<=k0+x.2.2)/\x.1.take x.2.1=cmpL (l.take (k0+x.2.2))/\x.1.drop x.2.1=l.drop x.2.1
theorem Qft{l r:List Int}{k j:Nat}(h:r.drop k=l.drop k)(hj:k<=j)(h1:j<l.length)(h2:j<r.length):nth r j=nth l j:=by
 rw[Ja h1,Ja h2]
 have e1:(r.drop k)[j-k]?=(l.drop k)[j-k]?:=by rw[h]
 rw[List.getElem?_drop,List.getElem?_drop,show k+(j-k)=j by omega,List.getElem?_eq_getElem h1,List.getElem?_eq_getElem h2]at e1
 simpa using e1
theorem Qvh{l:List Int}{k0:Nat}(h:cpA l k0)(h1:k0<l.length)(h2:nth l k0=nth l (k0-1)):cpB l k0 (l,k0,1):=by
 obtain⟨⟨h3,h4⟩,h5⟩:=h
 refine⟨⟨Xam _,by dsimp only;omega,rfl,h3,by dsimp only;omega⟩,?_,rfl⟩
 dsimp only
 rw[Zv h3 h1,if_pos h2,Xa2,h5]
theorem Qra{l:List Int}{k0:Nat}{r:List Int}{k m:Nat}(h:cpB l k0 (r,k,m))(h1:k0+m<l.length)(h2:nth r (k0+m)=nth r (k0+(m-1))):cpB l k0 (r,k,m+1):=by
 obtain⟨⟨a1,a2,a3,a4,a5⟩,a6,a7⟩:=h
 dsimp only at a1 a2 a3 a4 a5 a6 a7
 rw[Qft a7 (by omega) h1 (by omega),Qft a7 (by omega) (by omega) (by omega)]at h2
 refine⟨⟨by dsimp only;omega,by dsimp only;omega,a3,a4,by dsimp only;omega⟩,?_,a7⟩
 dsimp only
 rw[<-XbD,Zv (by omega) h1,if_pos (by rw[h2];congr 1;omega),Xa2]
 exact a6
theorem QtC{l:List Int}{k0:Nat}{r:List Int}{k m:Nat}(h:cpB l k0 (r,k,m))(h1:k0+m<l.length)(h2:nth r (k0+m)≠nth r (k0+(m-1))):cpB l k0 (r.set k (nth r (k0+m)),k+1,m+1):=by
 obtain⟨⟨a1,a2,a3,a4,a5⟩,a6,a7⟩:=h
 dsimp only at a1 a2 a3 a4 a5 a6 a7
 have e:=Qft a7 (by omega) h1 (by omega)
 have e2:=Qft (j:=k0+(m-1)) a7 (by omega) (by omega) (by omega)
 rw[e,e2]at h2
 refine⟨⟨by dsimp only;omega,by dsimp only;omega,by dsimp only;rw[Xak];exact a3,by dsimp only;omega,by dsimp only;omega⟩,?_,?_⟩
 ·dsimp only
  rw[<-XbD,Zv (by omega) h1,if_neg (by rw[show k0+m-1=k0+(m-1) by omega];exact h2),<-a6,e]
  rw[XbZ,List.take_set_of_le (Xam _),List.getElem?_set_self (by omega)]
  rfl
 ·dsimp only
  rw[List.drop_set_of_lt (by omega)]
  have:(r.drop k).drop 1=(l.drop k).drop 1:=by rw[a7]
  simpa [List.drop_drop] using this
def cmpZ(l:List Int):List Int:=cmpL l++List.replicate (l.length-(cmpL l).length) 0
theorem QmX(l:List Int):(cmpL l).length<=l.length:=by
 have:=Qky l l.length (Xam _)
 rwa [Xap]at this
theorem Qmm{l:List Int}(h:cmpL l=l):cmpZ l=l:=by
 unfold cmpZ
 rw[h,XbX]
 simp
theorem Qrs(l:List Int):(cmpZ l).length=l.length:=by
 have:=QmX l
 simp only[cmpZ,Xac,Xbq]
 omega
theorem QoF(l:List Int)(k:Nat):(intE l).take k=intE (l.take k):=by simp[intE,List.map_take]
theorem Qf9(l:List Int)(k:Nat)(x:Int):(intE l).set k [.n .i64 x]=intE (l.set k x):=by simp[intE,List.map_set]
theorem Qe3{r:List Int}{k n:Nat}(h:r.length=n):(intE r).take k++(List.replicate (n-k) [.n .i64 0]++(intE r).drop n)=intE (r.take k++List.replicate (n-k) 0):=by
 have e:(intE r).drop n=[]:=Xa7 (by rw[Qb];omega)
 rw[e,Xa2]
 simp[intE,List.map_take]
theorem Qhf{l:List Int}(hl:l.length<=1000000000):MCalls Tryz.prog 284 [.row 1000000] [(1000000,.row 3 (intE l) true)] (fun _:Unit=>True) (fun _=>[.sub 1000000 0 (cmpL l).length]) (fun _=>[(1000000,.row 3 (intE (cmpZ l)) true)]) (fun _=>[]):=by
 refine Ji tt func284 rfl rfl rfl ⟨.inr (.inl (QN (fun _=>rfl))),trivial⟩ (fun _ _=>⟨⟨⟨rfl,rfl,(JN (f:=fun(x:Int)=>[D.n .i64 x]) (fun _=>rfl) (Qrs l)).symm⟩,trivial⟩,.inr (.inl (QN (fun _=>rfl))),trivial⟩) (fun w0 Z O=>?_)
 have hln:(intE l).length=l.length:=Qb l
 repeat'(first|(refine zhm fun hb=>?_;try exact zab)|refine Q7 ?_|(apply zch;exact zcg)|exact zhk|refine zg3 ?_ ?_|intro _|fail)
 ·show AWp _ _ _ _
  have hc:cmpL l=l:=by
   cases l with
   | nil=>rfl
   | cons x l=>
    cases l with
    | nil=>rfl
    | cons y l=>simp at *;omega
  rw[Qmm hc,hc]
  refine QeK 2 l.length rfl rfl (Qb _) ?_
  refine Qd5 ?_
  refine YC () [] (by exact trivial) rfl ?_ ?_ ?_
  all_goals exact zae
 refine Qa (fun(i:Nat)=>⟨61,[(0,.row 1000000),(3,zI i)],[(1000000,.row 3 (intE l) true)]⟩) (cpA l) (fun i=>l.length-i) 1 (by exact⟨⟨Xam _,by omega⟩,Qkq (by omega)⟩) ?_ ?_
 ·exact zll
 ·intro k0 hA
  have hA1:=hA.1
  repeat'(first|(refine zhm fun hb=>?_;try exact zab)|refine Q7 ?_|(apply zch;exact zcg)|exact zhk|refine zg3 ?_ ?_|intro _|fail)
  ·refine Qa (fun(x:List Int×Nat×Nat)=>⟨61,[(0,.row 1000000),(3,zI x.2.1),(4,.sub 1000000 k0 l.length),(5,zI x.2.2)],[(1000000,.row 3 (intE x.1) true)]⟩) (cpB l k0) (fun x=>l.length-x.2.2) (l,k0,1) (Qvh hA (by omega) (by assumption)) ?_ ?_
   ·exact zll
   ·rintro ⟨r,k,m⟩ hB
    have hB1:=hB.1
    dsimp only at hB1
    have hlr:(intE r).length=r.length:=Qb r
    have hcl:((intE r).take k++(List.replicate (r.length-k) [D.n .i64 0]++(intE r).drop r.length)).length=r.length:=by
     rw[Qe3 rfl,Qb];simp;omega
    dsimp only
    repeat'(first|(refine zhm fun hb=>?_;try exact zab)|refine Q7 ?_|(apply zch;exact zcg)|exact zhk|refine zg3 ?_ ?_|intro _|fail)
    ·refine⟨(r.set k (nth r (k0+m)),k+1,m+1),QtC hB (by omega) (by assumption),by dsimp only;omega,?_⟩
     refine zag ?_;exact zp (Qf9 _ _ _)
    ·exact⟨(r,k,m+1),Qra hB (by omega) (by assumption),by dsimp only;omega,zll⟩
    ·show AWp _ _ _ _
     have hk:cmpL l=r.take k:=by
      have:=hB.2.1
      dsimp only at this
      rw[Xaz (l:=l) (i:=k0+m) (by omega)]at this
      exact this.symm
     have hkl:(cmpL l).length=k:=by rw[hk,Xai];omega
     have hz:cmpZ l=r.take k++List.replicate (r.length-k) 0:=by
      unfold cmpZ
      rw[hkl,hk,hB1.2.2.1]
     rw[hkl]
     refine Qd5 ?_
     refine YC () [] (by exact trivial) rfl ?_ ?_ ?_
     repeat'(first|exact ze3|refine ze2 ?_ ?_|refine ze4 ?_|exact ze5|fail)
     all_goals exact zp (by rw[hz];exact Qe3 rfl)
  ·refine⟨k0+1,⟨⟨by omega,by omega⟩,?_⟩,by omega,?_⟩
   ·rw[Zv (by omega) (by omega),if_neg (by assumption),hA.2,XbZ,List.getElem?_eq_getElem (by omega),Ja (by omega)]
    rfl
   exact zll
  ·show AWp _ _ _ _
   have hc:cmpL l=l:=by
    have:=hA.2
    rwa [Xaz (by omega)]at this
   rw[Qmm hc,hc]
   refine QeK 2 l.length rfl rfl (Qb _) ?_
   refine Qd5 ?_
   refine YC () [] (by exact trivial) rfl ?_ ?_ ?_
   all_goals exact zae
end
section
attribute [local irreducible] AWp QJ OpOk ACalls ChA QsOk MCalls EnC PY

@[reducible] def QfG (l:List Pt):List AV:=[zL (ptE l)]
@[reducible] def vecC (v:V3):List AV:=[zI v.a,zI v.b,zI v.c]
theorem W5{a b:Int}:VE a b=true↔(0<=a/\a<=1000000000)/\(0<=b/\b<=1000000000)/\a<b:=by
 simp only[VE,Xaf,Yr,decide_eq_true_eq,and_assoc]
theorem QqD{a b:Int}:zAc 276 [zI a,zI b] [.d (.b (VE a b))] []:=by
 refine zAC func276 fun w0 Z=>?_
 repeat'(first|(refine zhm fun hb=>?_;try exact zab)|refine zUto ?_|refine zg2 ?_ ?_|refine zqj Wz ?_|intro _|fail)
 all_goals
  refine zr [] ?_ ?_
  repeat'(first|exact ze3|refine ze2 ?_ ?_|refine ze4 ?_|exact ze5|fail)
  exact zp (by rw[Xan,W5];simp only[decide_eq_true_eq,XaV,false_iff];omega)
def ptOk(l:List Pt)(j:Nat):Prop:=((0<=(nth l j).at'/\(nth l j).at'<=1000000000)/\Qh (nth l j).free=true)/\(0<j->(nth l (j-1)).at'<(nth l j).at'/\(nth l (j-1)).free≠(nth l j).free)
theorem Jp.pt{l:List Pt}(h:Jp l){j:Nat}(hj:j<l.length):ptOk l j:=⟨h.pts j hj,fun h0=>by
 have:=h.steps (j-1) (by omega)
 rwa [show j-1+1=j by omega]at this⟩
theorem Qh4{l:List Pt}(h1:1<=l.length/\l.length<=200)(h2:(nth l 0).at'=0)(h3:∀j,j<l.length->ptOk l j):Jp l:=
 ⟨h1,h2,fun j hj=>(h3 j hj).1,fun j hj=>(h3 (j+1) hj).2 (by omega)⟩
theorem Qen{u v:V3}:(u.a==v.a&&(u.b==v.b&&(u.c==v.c&&true)))=true↔u=v:=by
 cases u;cases v;simp
theorem Qc0{u v:V3}:(u.a==v.a&&(u.b==v.b&&(u.c==v.c&&true)))=false↔u≠v:=by
 cases u;cases v;simp
theorem QfH{l:List Pt}(hl:l.length<=1000000000):zAc 275 [XA l] [.d (.b (JJ l))] []:=by
 refine zAC func275 fun w0 Z=>?_
 have hpl:(ptE l).length=l.length:=JD l
 repeat'(first|(refine zhm fun hb=>?_;try exact zab)|refine Qe ?_|(apply zch;exact zcg)|exact zhk|refine zg3 ?_ ?_|refine zqd QX ?_|intro _|fail)
 any_goals
  rw[show JJ l=false from X9.2 fun h=>by have h1:=h.len;have h2:=h.zero;omega]
  refine zr [] ?_ ?_
  repeat'(first|exact ze3|refine ze2 ?_ ?_|refine ze4 ?_|exact ze5|fail)
  all_goals exact zp rfl
 refine Qa (fun(i:Nat)=>⟨65,[(1,.ptr 1 0),(19,zL (ptE l)),(20,zI (l.length:Nat)),(21,zI i)],[(1,.box 207 (QfG l))]⟩) (fun i=>i<=l.length/\∀j,j<i->ptOk l j) (fun i=>l.length-i) 0 (by exact⟨Xab _,fun j hj=>absurd hj (Xas _)⟩) ?_ ?_
 ·exact zll
 ·rintro i ⟨hi,hp⟩
  repeat'(first|(refine zhm fun hb=>?_;try exact zab)|refine Qe ?_|(apply zch;exact zcg)|exact zhk|refine zg3 ?_ ?_|refine zqd Wz ?_|refine kc (Yh (v:=(nth l i).free)) rfl rfl ?_|refine kq (Yh (v:=(nth l i).free)) rfl rfl ?_|intro _|fail)
  any_goals
   rw[show JJ l=false from X9.2 fun h=>by
    have hq:=h.pt (j:=i) (by omega)
    have h1:=hq.1.1
    first
     | omega
     | (have h2:=hq.1.2;simp_all;done)
     | (have h2:=hq.2 (by omega);omega)
     | exact(hq.2 (by omega)).2 (Qen.1 (by assumption))]
   refine zr [] ?_ ?_
   repeat'(first|exact ze3|refine ze2 ?_ ?_|refine ze4 ?_|exact ze5|fail)
   all_goals exact zp rfl
  ·refine⟨i+1,⟨by omega,fun j hj=>?_⟩,by omega,?_⟩
   ·by_cases e:j=i
    ·subst e;exact⟨⟨by assumption,by assumption⟩,fun _=>⟨by omega,Qc0.1 (by assumption)⟩⟩
    ·exact hp j (by omega)
   exact zll
  ·refine⟨i+1,⟨by omega,fun j hj=>?_⟩,by omega,?_⟩
   ·by_cases e:j=i
    ·subst e;exact⟨⟨by assumption,by assumption⟩,fun h=>absurd h (by omega)⟩
    ·exact hp j (by omega)
   exact zll
  ·rw[show JJ l=true from JK.2 (Qh4 (by omega) (by omega) fun j hj=>hp j (by omega))]
   exact zrr
theorem Qal{l:List Pt}(hl:l.length<=1000000000):zAc 292 [XA l] [.d (.b (JJ l))] []:=by
 refine zAC func292 fun w0 Z=>?_
 have hpl:(ptE l).length=l.length:=JD l
 repeat'(first|(refine zhm fun hb=>?_;try exact zab)|refine Qe ?_|(apply zch;exact zcg)|exact zhk|refine zg3 ?_ ?_|intro _|fail)
 any_goals
  rw[show JJ l=false from X9.2 fun h=>by have h1:=h.len;have h2:=h.zero;omega]
  refine zr [] ?_ ?_
  repeat'(first|exact ze3|refine ze2 ?_ ?_|refine ze4 ?_|exact ze5|fail)
  all_goals exact zp rfl
 refine Qa (fun(i:Nat)=>⟨70,[(1,.ptr 1 0),(24,zL (ptE l)),(25,zI (l.length:Nat)),(26,zI i)],[(1,.box 207 (QfG l))]⟩) (fun i=>i<=l.length/\∀j,j<i->ptOk l j) (fun i=>l.length-i) 0 (by exact⟨Xab _,fun j hj=>absurd hj (Xas _)⟩) ?_ ?_
 ·exact zll
 ·rintro i ⟨hi,hp⟩
  repeat'(first|(refine zhm fun hb=>?_;try exact zab)|refine Qe ?_|(apply zch;exact zcg)|exact zhk|refine zg3 ?_ ?_|refine zqd Y1 ?_|refine kc (JV (v:=(nth l i).free)) rfl rfl ?_|refine kq (JV (v:=(nth l i).free)) rfl rfl ?_|intro _|fail)
  any_goals
   rw[show JJ l=false from X9.2 fun h=>by
    have hq:=h.pt (j:=i) (by omega)
    have h1:=hq.1.1
    first
     | omega
     | (have h2:=hq.1.2;simp_all;done)
     | (have h2:=hq.2 (by omega);omega)
     | exact(hq.2 (by omega)).2 (Qen.1 (by assumption))]
   refine zr [] ?_ ?_
   repeat'(first|exact ze3|refine ze2 ?_ ?_|refine ze4 ?_|exact ze5|fail)
   all_goals exact zp rfl
  ·refine⟨i+1,⟨by omega,fun j hj=>?_⟩,by omega,?_⟩
   ·by_cases e:j=i
    ·subst e;exact⟨⟨by assumption,by assumption⟩,fun _=>⟨by omega,Qc0.1 (by assumption)⟩⟩
    ·exact hp j (by omega)
   exact zll
  ·refine⟨i+1,⟨by omega,fun j hj=>?_⟩,by omega,?_⟩
   ·by_cases e:j=i
    ·subst e;exact⟨⟨by assumption,by assumption⟩,fun h=>absurd h (by omega)⟩
    ·exact hp j (by omega)
   exact zll
  ·rw[show JJ l=true from JK.2 (Qh4 (by omega) (by omega) fun j hj=>hp j (by omega))]
   exact zrr
theorem Qma(l:List Pt)(p:Pt)(t:Int):JF (l++[p]) t=if p.at'<=t then p.free else JF l t:=by
 simp[JF,List.foldl_append]
theorem QI{α:Type}[Inhabited α]{l:List α}{i:Nat}(h:i<l.length):l.take (i+1)=l.take i++[nth l i]:=by
 rw[XbZ,List.getElem?_eq_getElem h,Ja h]
 rfl
theorem Wg{l:List Pt}{i:Nat}(h:i<l.length)(t:Int):JF (l.take (i+1)) t=if(nth l i).at'<=t then(nth l i).free else JF (l.take i) t:=by
 rw[QI h,Qma]
theorem QhQ{l:List Pt}{t:Int}(hl:l.length<=1000000000):zAc 299 [XA l,zI t] [vecA (JF l t)] []:=by
 refine zAC func299 fun w0 Z=>?_
 repeat'(first|(refine zhm fun hb=>?_;try exact zab)|refine zUtp ?_|refine zg2 ?_ ?_|intro _|fail)
 refine Qa (fun(i:Nat)=>⟨24,[(1,zI t),(4,.ptr 4 0),(5,.ptr 5 0),(10,zL (ptE l)),(11,zI (l.length:Nat)),(12,zI i)],[(4,.box 44 (vecC zV)),(5,.box 44 (vecC (JF (l.take i) t)))]⟩) (fun i=>i<=l.length) (fun i=>l.length-i) 0 (by exact Xab _) ?_ ?_
 ·exact zll
 ·intro i hi
  repeat'(first|(refine zhm fun hb=>?_;try exact zab)|refine zUtp ?_|refine zg2 ?_ ?_|intro _|fail)
  ·refine⟨i+1,by omega,by omega,?_⟩
   refine⟨rfl,?_,?_,rfl⟩
   repeat'(first|exact ze3|refine ze2 ?_ ?_|refine ze4 ?_|exact ze5|fail)
   all_goals exact zp (by first|rfl|(rw[Wg (by omega),if_pos (by assumption)]))
  ·refine⟨i+1,by omega,by omega,?_⟩
   refine⟨rfl,?_,?_,rfl⟩
   repeat'(first|exact ze3|refine ze2 ?_ ?_|refine ze4 ?_|exact ze5|fail)
   all_goals exact zp (by first|rfl|(rw[Wg (by omega),if_neg (by assumption)]))
  ·rw[show JF l t=JF (l.take i) t by rw[Xaz (by omega)]]
   exact zrr
theorem QdZ{l:List Pt}{t:Int}(hl:l.length<=1000000000):zAc 309 [XA l,zI t] [vecA (JF l t)] []:=by
 refine zAC func309 fun w0 Z=>?_
 repeat'(first|(refine zhm fun hb=>?_;try exact zab)|refine zUtp ?_|refine zg2 ?_ ?_|intro _|fail)
 refine Qa (fun(i:Nat)=>⟨24,[(1,zI t),(4,.ptr 4 0),(5,.ptr 5 0),(10,zL (ptE l)),(11,zI (l.length:Nat)),(12,zI i)],[(4,.box 44 (vecC zV)),(5,.box 44 (vecC (JF (l.take i) t)))]⟩) (fun i=>i<=l.length) (fun i=>l.length-i) 0 (by exact Xab _) ?_ ?_
 ·exact zll
 ·intro i hi
  repeat'(first|(refine zhm fun hb=>?_;try exact zab)|refine zUtp ?_|refine zg2 ?_ ?_|intro _|fail)
  ·refine⟨i+1,by omega,by omega,?_⟩
   refine⟨rfl,?_,?_,rfl⟩
   repeat'(first|exact ze3|refine ze2 ?_ ?_|refine ze4 ?_|exact ze5|fail)
   all_goals exact zp (by first|rfl|(rw[Wg (by omega),if_pos (by assumption)]))
  ·refine⟨i+1,by omega,by omega,?_⟩
   refine⟨rfl,?_,?_,rfl⟩
   repeat'(first|exact ze3|refine ze2 ?_ ?_|refine ze4 ?_|exact ze5|fail)
   all_goals exact zp (by first|rfl|(rw[Wg (by omega),if_neg (by assumption)]))
  ·rw[show JF l t=JF (l.take i) t by rw[Xaz (by omega)]]
   exact zrr
def newP(v:V3):List Pt:=if Qh v=true then[⟨0,v⟩] else[]
theorem Qaf{v:V3}(hv:Qh v=true):zAc 271 [vecA v] [.agg [.row 0],.d (.b true)] [(0,.row 280 (ptE [⟨0,v⟩]) true)]:=by
 refine zAC func271 fun w0 Z=>?_
 have hc:=Yh (v:=v)
 rw[hv]at hc
 repeat'(first|(refine zhm fun hb=>?_;try exact zab)|refine zUto ?_|refine zg2 ?_ ?_|intro _|fail)
 exact zr [10] zae zae
theorem J9{v:V3}(hv:Qh v=true):zAc 264 [vecA v] [.agg [.row 0],.d (.b true)] [(0,.row 280 (ptE [⟨0,v⟩]) true)]:=by
 refine zAC func264 fun w0 Z=>?_
 have hc:=JV (v:=v)
 rw[hv]at hc
 repeat'(first|(refine zhm fun hb=>?_;try exact zab)|refine zUto ?_|refine zg2 ?_ ?_|intro _|fail)
 exact zr [10] zae zae
end
end Go.Proofs.YtihgfennoalocaaGreat
