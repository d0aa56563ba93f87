/-
  Vectors: valid, VecAdd, VecSub, VecMin, VecFits, both.
-/
import Derived.Test.YtkdniahincpmaaaGreatKB9
import Derived.Test.YtkdniahincpmaaaGreatKB26
import Derived.Sort.OwnSortedInts
set_option maxRecDepth 100000
set_option maxHeartbeats 16000000
namespace Go.Proofs.YtkdniahincpmaaaGreat
open Go Go.RowKit Tryz
section
attribute [local irreducible] AWp QI OpOk ACalls ChA QsOk MCalls EnC PY

def addV(a b:V3):V3:=⟨a.a+b.a,a.b+b.b,a.c+b.c⟩
def QhE(a b:V3):V3:=⟨a.a-b.a,a.b-b.b,a.c-b.c⟩
def minV(a b:V3):V3:=⟨min a.a b.a,min a.b b.b,min a.c b.c⟩
def valO(a b v:V3):Option V3:=if(Qf a&&(Qf b&&Qf v))=true then some v else none
@[reducible] def resV (o:Option V3):List AV:=[vecA (o.getD zV),.d (.b o.isSome)]
def Vk(a b:V3):Bool:=Qf a&&(Qf b&&(decide (a.a<=b.a)&&(decide (a.b<=b.b)&&decide (a.c<=b.c))))
def addO(a b:V3):Option V3:=valO a b (addV a b)
def subO(a b:V3):Option V3:=valO a b (QhE a b)
def minO(a b:V3):V3:=(valO a b (minV a b)).getD zV
theorem Y4{v:V3}(h:Qf v=true):(0<=v.a/\v.a<=1000000)/\(0<=v.b/\v.b<=1000000)/\0<=v.c/\v.c<=1000000:=by
 simp only[Qf,Xab,JA]at h
 exact⟨h.1.1,h.1.2,h.2⟩
theorem QmH{v:V3}(h1:0<=v.a/\v.a<=1000000)(h2:0<=v.b/\v.b<=1000000)(h3:0<=v.c/\v.c<=1000000):Qf v=true:=by
 simp only[Qf,Xab,JA]
 exact⟨⟨h1,h2⟩,h3⟩
theorem QlJ{a b v:V3}(h:Qf a=false\/Qf b=false\/Qf v=false):valO a b v=none:=by
 unfold valO
 rw[if_neg]
 rcases h with h|h|h <;> simp[h]
theorem Qrv{a b v:V3}(h1:Qf a=true)(h2:Qf b=true)(h3:Qf v=true):valO a b v=some v:=by
 unfold valO
 rw[if_pos]
 simp[h1,h2,h3]
theorem Qvy{a b:V3}(h1:Qf a=true)(h2:Qf b=true):Qf (minV a b)=true:=by
 obtain⟨a1,a2,a3⟩:=Y4 h1
 obtain⟨b1,b2,b3⟩:=Y4 h2
 exact QmH (by simp only[minV];omega) (by simp only[minV];omega) (by simp only[minV];omega)
theorem QuD{a b:V3}(h1:Qf a=true)(h2:Qf b=true):minO a b=minV a b:=by
 unfold minO
 rw[Qrv h1 h2 (Qvy h1 h2)]
 rfl
theorem QuM{a b:V3}(h:Qf a=false\/Qf b=false):minO a b=zV:=by
 unfold minO
 rw[QlJ (h.imp id Or.inl)]
 rfl
theorem Xn{a b:V3}:Vk a b=true↔Qf a=true/\Qf b=true/\a.a<=b.a/\a.b<=b.b/\a.c<=b.c:=by
 simp only[Vk,Xab,decide_eq_true_eq]
theorem Qu1{a b:V3}(h:Vk b a=true):subO a b=some (QhE a b):=by
 obtain⟨c,d,h3,h4,h5⟩:=Xn.1 h
 obtain⟨a1,a2,a3⟩:=Y4 c
 obtain⟨b1,b2,b3⟩:=Y4 d
 exact Qrv d c (QmH (by simp only[QhE];omega) (by simp only[QhE];omega) (by simp only[QhE];omega))
theorem Quu{a b:V3}(h:Vk b a=false):subO a b=none:=by
 cases hb:(Qf a&&(Qf b&&Qf (QhE a b))) with
 | false=>unfold subO valO;rw[hb];rfl
 | true=>
  simp only[Xab]at hb
  obtain⟨f,g,i⟩:=hb
  obtain⟨c,d,e⟩:=Y4 i
  simp only[QhE]at c d e
  rw[Xn.2 ⟨g,f,by omega,by omega,by omega⟩]at h
  cases h
theorem QkC{a b v:V3}:zAc 63 [vecA a,vecA b,vecA v] (resV (valO a b v)) []:=by
 refine zAC func63 fun w0 Z=>?_
 repeat'(first|(refine zhm fun hb=>?_;try exact zab)|refine zUto ?_|refine zg2 ?_ ?_|refine kc (Yy (v:=a)) rfl rfl ?_|refine kc (Yy (v:=b)) rfl rfl ?_|refine kc (Yy (v:=v)) rfl rfl ?_|intro _)
 ·rw[QlJ (Or.inl (by assumption))]
  exact zrr
 ·rw[QlJ (Or.inr (Or.inl (by assumption)))]
  exact zrr
 ·rw[QlJ (Or.inr (Or.inr (by assumption)))]
  exact zrr
 ·rw[Qrv (by assumption) (by assumption) (by assumption)]
  exact zrr
theorem QlE{a b:V3}(ha:Qf a=true)(hb':Qf b=true):zAc 21 [vecA a,vecA b] (resV (addO a b)) []:=by
 refine zAC func21 fun w0 Z=>?_
 obtain⟨a1,a2,a3⟩:=Y4 ha
 obtain⟨b1,b2,b3⟩:=Y4 hb'
 repeat'(first|(refine zhm fun hb=>?_;try exact zab)|refine zUtn ?_|refine zg2 ?_ ?_|refine kc (QkC (a:=a) (b:=b) (v:=addV a b)) rfl rfl ?_|intro _)
 exact zrr
theorem QtA{a b:V3}(ha:Qf a=true)(hb':Qf b=true):zAc 257 [vecA a,vecA b] (resV (subO a b)) []:=by
 refine zAC func257 fun w0 Z=>?_
 obtain⟨a1,a2,a3⟩:=Y4 ha
 obtain⟨b1,b2,b3⟩:=Y4 hb'
 repeat'(first|(refine zhm fun hb=>?_;try exact zab)|refine zUtn ?_|refine zg2 ?_ ?_|refine kc (QkC (a:=a) (b:=b) (v:=QhE a b)) rfl rfl ?_|intro _)
 exact zrr
theorem QsZ{a b:V3}:zAc 298 [vecA a,vecA b] [vecA (minO a b)] []:=by
 refine zAC func298 fun w0 Z=>?_
 repeat'(first|(refine zhm fun hb=>?_;try exact zab)|refine zUto ?_|refine zg2 ?_ ?_|refine kc (QkC (a:=a) (b:=b) (v:=minV a b)) rfl rfl ?_|intro _)
 exact zrr
theorem Qbx{a b:V3}:zAc 19 [vecA a,vecA b] [.d (.b (Vk a b))] []:=by
 refine zAC func19 fun w0 Z=>?_
 repeat'(first|(refine zhm fun hb=>?_;try exact zab)|refine zUto ?_|refine zg2 ?_ ?_|refine kc (Yy (v:=a)) rfl rfl ?_|refine kc (Yy (v:=b)) rfl rfl ?_|intro _)
 all_goals
  refine zr [] ?_ ?_
  repeat'(first|exact ze3|refine ze2 ?_ ?_|refine ze4 ?_|exact ze5|fail)
  refine zp ?_
  first
   | done
   | (rw[Bool.eq_iff_iff];simp[Vk, *];done)
   | (rw[Bool.eq_iff_iff];simp[Vk, *];omega)
theorem QdO{a b:V3}:zAc 306 [vecA a,vecA b] [.d (.b (Vk a b))] []:=by
 refine zAC func306 fun w0 Z=>?_
 repeat'(first|(refine zhm fun hb=>?_;try exact zab)|refine zUto ?_|refine zg2 ?_ ?_|refine kc (J5 (v:=a)) rfl rfl ?_|refine kc (J5 (v:=b)) rfl rfl ?_|intro _)
 all_goals
  refine zr [] ?_ ?_
  repeat'(first|exact ze3|refine ze2 ?_ ?_|refine ze4 ?_|exact ze5|fail)
  refine zp ?_
  first
   | done
   | (rw[Bool.eq_iff_iff];simp[Vk, *];done)
   | (rw[Bool.eq_iff_iff];simp[Vk, *];omega)
theorem Qdo{a b:V3}:zAc 344 [vecA a,vecA b] (resV (subO a b)) []:=by
 refine zAC func344 fun w0 Z=>?_
 have d:=QdO (a:=b) (b:=a)
 cases c:Vk b a with
 | false=>
  rw[c]at d
  repeat'(first|(refine zhm fun hb=>?_;try exact zab)|refine zUto ?_|refine zg2 ?_ ?_|intro _)
  rw[Quu c]
  exact zrr
 | true=>
  rw[c]at d
  obtain⟨e,f,h3,h4,h5⟩:=Xn.1 c
  obtain⟨a1,a2,a3⟩:=Y4 e
  obtain⟨b1,b2,b3⟩:=Y4 f
  repeat'(first|(refine zhm fun hb=>?_;try exact zab)|refine zUtn ?_|refine zg2 ?_ ?_|intro _)
  rw[Qu1 c]
  exact zrr
theorem QtQ{a b:Int}:zAc 365 [zI a,zI b] [zI (min a b)] []:=by
 refine zAC func365 fun w0 Z=>?_
 repeat'(first|(refine zhm fun hb=>?_;try exact zab)|refine zUto ?_|refine zg2 ?_ ?_|intro _)
 all_goals
  refine zr [] ?_ ?_
  repeat'(first|exact ze3|refine ze2 ?_ ?_|refine ze4 ?_|exact ze5|fail)
  all_goals exact zp (by omega)
theorem QsI{a b:V3}:zAc 341 [vecA a,vecA b] [vecA (minO a b)] []:=by
 refine zAC func341 fun w0 Z=>?_
 repeat'(first|(refine zhm fun hb=>?_;try exact zab)|refine Qbn ?_|(apply zch;exact zcg)|exact zhk|refine zg3 ?_ ?_|refine kc (J5 (v:=a)) rfl rfl ?_|refine kc (J5 (v:=b)) rfl rfl ?_|refine zqd QtQ ?_|refine kq (J5 (v:=a)) rfl rfl ?_|refine kq (J5 (v:=b)) rfl rfl ?_|intro _)
 ·rw[QuM (Or.inl (by assumption))]
  exact zrr
 ·rw[QuM (Or.inr (by assumption))]
  exact zrr
 ·rw[QuD (by assumption) (by assumption)]
  exact zrr
end
section
attribute [local irreducible] AWp QI OpOk ACalls ChA QsOk EnC PY

theorem QfS(w:World)(r:Option Nat):w.grownBy w r:=⟨rfl,rfl,rfl,Xaj _,fun _ _ _=>rfl⟩
theorem QrD{l:List Int}{d:Bool}(hl:l.length<=1000000000):MCalls Tryz.prog 261 [.row 1000000] [(1000000,.row 3 (intE l) d)] (fun _:Unit=>True) (fun _=>[]) (fun _=>[(1000000,.row 3 (intE (srtI l)) d)]) (fun _=>[]):=by
 refine QnG (z:=1) ti3.sized (Q6 fun _=>rfl) (Q6 fun _=>rfl) (Qdf (f:=fun(x:Int)=>[D.n .i64 x]) (fun _=>rfl) (Yj l)) (fun h w'=>Go.MuLone.run_callFunc_enter func261 rfl rfl h w') ?_
 intro w v h c j
 rw[Vt j,Qc]at c
 rw[Qc]
 rcases c.2 with ⟨hv,hn⟩|⟨g,cap,cur,hv,hbg,hg,hnc,hcm,hcs,htake⟩
 ·have b:l=[]:=Xbh.1 hn
  subst b;subst hv
  have a:=AnyM.slices_Sort_int_none Tryz.sortI none 0 w
  change Calls Tryz.prog 261 _ _ _ at a
  exact a.mono fun e w' ⟨he,hw⟩=>by
   subst hw
   have i:srtI []=[]:=XaD (Yj [])
   rw[i]
   exact⟨he,QfS _ _,[],c,rfl,rfl⟩
 ·subst hv
  rw[Nat.mul_one]at htake
  have a:=AnyM.slices_Sort_int Tryz.sortI g 0 cap l w (holds_of_blockI hg htake) (Array.getElem?_eq_some_iff.1 hg).1 (by omega)
  change Calls Tryz.prog 261 _ _ _ at a
  exact a.mono fun e w' ⟨he,n,os,hw⟩=>by
   subst hw
   exact⟨he,grownBy_sortedI _,(srtI l).map (Value.int .i64),ownsRow_sortedI (Yj l) (Xad _) hg hnc hcm hcs,Qfu _ _⟩
theorem QcH:∀(l:List Int) (x y:Int),QcG x (l++[y])=QcG x l++(if y=(x::l).getLast (by simp) then[] else[y])
 | [],x,y=>by
  simp only[XaR,QcG,List.getLast_singleton]
  rfl
 | z::l,x,y=>by
  simp only[Xa0,QcG]
  by_cases hz:z=x
  ·subst hz
   rw[if_pos rfl,if_pos rfl,QcH l z y]
   simp only[List.getLast_cons_cons]
   rfl
  ·rw[if_neg hz,if_neg hz,QcH l z y,Xa0]
   simp only[List.getLast_cons_cons]
   rfl
theorem XB{l:List Int}{m:Nat}(h1:1<=m)(h2:m<l.length):cmpL (l.take (m+1))=cmpL (l.take m)++(if nth l m=nth l (m-1) then[] else[nth l m]):=by
 rw[Xb3,List.getElem?_eq_getElem h2,<-Jb h2]
 cases l with
 | nil=>simp at h2
 | cons x l=>
  obtain⟨k,rfl⟩:∃k,m=k+1:=⟨m-1,by omega⟩
  simp only[List.take_succ_cons,Option.toList_some,Xa0,cmpL]
  rw[QcH]
  have e:(x::l.take k).getLast (by simp)=nth (x::l) (k+1-1):=by
   rw[Jb (by omega),List.getLast_eq_getElem]
   simp only[Xao,Xah,XbX]
   have:min k l.length=k:=by simp at h2;omega
   cases k with
   | zero=>simp
   | succ k=>simp[this]
  rw[e]
theorem QlS{l:List Int}(h:1<=l.length):cmpL (l.take 1)=l.take 1:=by
 cases l with
 | nil=>simp at h
 | cons x l=>simp[cmpL,QcG]
theorem QmI(l:List Int):∀m,m<=l.length->(cmpL (l.take m)).length<=m
 | 0,_=>by simp[cmpL]
 | m+1,h=>by
  by_cases h0:m=0
  ·subst h0;rw[QlS (by omega)];simp;omega
  ·rw[XB (by omega) (by omega),Xaa]
   have:=QmI l m (by omega)
   split <;> simp <;> omega
def cpA(l:List Int)(i:Nat):Prop:=(1<=i/\i<=l.length)/\cmpL (l.take i)=l.take i
def cpB(l:List Int)(k0:Nat)(x:List Int×Nat×Nat):Prop:=
 (1<=x.2.2/\x.2.2<=l.length-k0/\x.1.length=l.length/\1<=x.2.1/\x.2.1+1<=k0+x.2.2)/\x.1.take x.2.1=cmpL (l.take (k0+x.2.2))/\x.1.drop x.2.1=l.drop x.2.1
theorem QgM{l r:List Int}{k j:Nat}(h:r.drop k=l.drop k)(hj:k<=j)(h1:j<l.length)(h2:j<r.length):nth r j=nth l j:=by
 rw[Jb h1,Jb h2]
 have a:(r.drop k)[j-k]?=(l.drop k)[j-k]?:=by rw[h]
 rw[List.getElem?_drop,List.getElem?_drop,show k+(j-k)=j by omega,List.getElem?_eq_getElem h1,List.getElem?_eq_getElem h2]at a
 simpa using a
theorem Qzs{l:List Int}{k0:Nat}(h:cpA l k0)(h1:k0<l.length)(h2:nth l k0=nth l (k0-1)):cpB l k0 (l,k0,1):=by
 obtain⟨⟨a,h4⟩,b⟩:=h
 refine⟨⟨Xaj _,by dsimp only;omega,rfl,a,by dsimp only;omega⟩,?_,rfl⟩
 dsimp only
 rw[XB a h1,if_pos h2,XaS,b]
theorem Qr9{l:List Int}{k0:Nat}{r:List Int}{k m:Nat}(h:cpB l k0 (r,k,m))(h1:k0+m<l.length)(h2:nth r (k0+m)=nth r (k0+(m-1))):cpB l k0 (r,k,m+1):=by
 obtain⟨⟨e,f,b,c,g⟩,d,a⟩:=h
 dsimp only at e f b c g d a
 rw[QgM a (by omega) h1 (by omega),QgM a (by omega) (by omega) (by omega)]at h2
 refine⟨⟨by dsimp only;omega,by dsimp only;omega,b,c,by dsimp only;omega⟩,?_,a⟩
 dsimp only
 rw[<-XbD,XB (by omega) h1,if_pos (by rw[h2];congr 1;omega),XaS]
 exact d
theorem QwF{l:List Int}{k0:Nat}{r:List Int}{k m:Nat}(h:cpB l k0 (r,k,m))(h1:k0+m<l.length)(h2:nth r (k0+m)≠nth r (k0+(m-1))):cpB l k0 (r.set k (nth r (k0+m)),k+1,m+1):=by
 obtain⟨⟨d,f,b,g,i⟩,c,a⟩:=h
 dsimp only at d f b g i c a
 have e:=QgM a (by omega) h1 (by omega)
 have n:=QgM (j:=k0+(m-1)) a (by omega) (by omega) (by omega)
 rw[e,n]at h2
 refine⟨⟨by dsimp only;omega,by dsimp only;omega,by dsimp only;rw[XaM];exact b,by dsimp only;omega,by dsimp only;omega⟩,?_,?_⟩
 ·dsimp only
  rw[<-XbD,XB (by omega) h1,if_neg (by rw[show k0+m-1=k0+(m-1) by omega];exact h2),<-c,e]
  rw[Xb3,List.take_set_of_le (Xaj _),List.getElem?_set_self (by omega)]
  rfl
 ·dsimp only
  rw[List.drop_set_of_lt (by omega)]
  have:(r.drop k).drop 1=(l.drop k).drop 1:=by rw[a]
  simpa [List.drop_drop] using this
def cmpZ(l:List Int):List Int:=cmpL l++List.replicate (l.length-(cmpL l).length) 0
theorem Qrc(l:List Int):(cmpL l).length<=l.length:=by
 have:=QmI l l.length (Xaj _)
 rwa [Xak]at this
theorem QpN{l:List Int}(h:cmpL l=l):cmpZ l=l:=by
 unfold cmpZ
 rw[h,XcA]
 simp
theorem QsP(l:List Int):(cmpZ l).length=l.length:=by
 have:=Qrc l
 simp only[cmpZ,Xaa,Xbd]
 omega
theorem QpO(l:List Int)(k:Nat):(intE l).take k=intE (l.take k):=by simp[intE,List.map_take]
theorem Qg1(l:List Int)(k:Nat)(x:Int):(intE l).set k [.n .i64 x]=intE (l.set k x):=by simp[intE,List.map_set]
theorem Qf9{r:List Int}{k n:Nat}(h:r.length=n):(intE r).take k++(List.replicate (n-k) [.n .i64 0]++(intE r).drop n)=intE (r.take k++List.replicate (n-k) 0):=by
 have e:(intE r).drop n=[]:=Xbf (by rw[Qc];omega)
 rw[e,XaS]
 simp[intE,List.map_take]
theorem QiI{l:List Int}(hl:l.length<=1000000000):MCalls Tryz.prog 262 [.row 1000000] [(1000000,.row 3 (intE l) true)] (fun _:Unit=>True) (fun _=>[.sub 1000000 0 (cmpL l).length]) (fun _=>[(1000000,.row 3 (intE (cmpZ l)) true)]) (fun _=>[]):=by
 refine Js tt func262 rfl rfl rfl ⟨.inr (.inl (Q6 (fun _=>rfl))),trivial⟩ (fun _ _=>⟨⟨⟨rfl,rfl,(Qdf (f:=fun(x:Int)=>[D.n .i64 x]) (fun _=>rfl) (QsP l)).symm⟩,trivial⟩,.inr (.inl (Q6 (fun _=>rfl))),trivial⟩) (fun w0 Z O=>?_)
 have p:(intE l).length=l.length:=Qc l
 repeat'(first|(refine zhm fun hb=>?_;try exact zab)|refine QR ?_|(apply zch;exact zcg)|exact zhk|refine zg3 ?_ ?_|intro _)
 ·show AWp _ _ _ _
  have c:cmpL l=l:=by
   cases l with
   | nil=>rfl
   | cons x l=>
    cases l with
    | nil=>rfl
    | cons y l=>simp at *;omega
  rw[QpN c,c]
  refine Qgf 2 l.length rfl rfl (Qc _) ?_
  refine QeC ?_
  refine Wf () [] (by exact trivial) rfl ?_ ?_ ?_
  all_goals exact zae
 refine Qa (fun(i:Nat)=>⟨61,[(0,.row 1000000),(3,zI i)],[(1000000,.row 3 (intE l) true)]⟩) (cpA l) (fun i=>l.length-i) 1 (by exact⟨⟨Xaj _,by omega⟩,QlS (by omega)⟩) ?_ ?_
 ·exact zll
 ·intro a e
  have j:=e.1
  repeat'(first|(refine zhm fun hb=>?_;try exact zab)|refine QR ?_|(apply zch;exact zcg)|exact zhk|refine zg3 ?_ ?_|intro _)
  ·refine Qa (fun(x:List Int×Nat×Nat)=>⟨61,[(0,.row 1000000),(3,zI x.2.1),(4,.sub 1000000 a l.length),(5,zI x.2.2)],[(1000000,.row 3 (intE x.1) true)]⟩) (cpB l a) (fun x=>l.length-x.2.2) (l,a,1) (Qzs e (by omega) (by assumption)) ?_ ?_
   ·exact zll
   ·rintro ⟨r,k,m⟩ g
    have b:=g.1
    dsimp only at b
    have q:(intE r).length=r.length:=Qc r
    have o:((intE r).take k++(List.replicate (r.length-k) [D.n .i64 0]++(intE r).drop r.length)).length=r.length:=by
     rw[Qf9 rfl,Qc];simp;omega
    dsimp only
    repeat'(first|(refine zhm fun hb=>?_;try exact zab)|refine QR ?_|(apply zch;exact zcg)|exact zhk|refine zg3 ?_ ?_|intro _)
    ·refine⟨(r.set k (nth r (a+m)),k+1,m+1),QwF g (by omega) (by assumption),by dsimp only;omega,?_⟩
     refine zag ?_;exact zp (Qg1 _ _ _)
    ·exact⟨(r,k,m+1),Qr9 g (by omega) (by assumption),by dsimp only;omega,zll⟩
    ·show AWp _ _ _ _
     have h:cmpL l=r.take k:=by
      have:=g.2.1
      dsimp only at this
      rw[Xas (l:=l) (i:=a+m) (by omega)]at this
      exact this.symm
     have d:(cmpL l).length=k:=by rw[h,Xah];omega
     have s:cmpZ l=r.take k++List.replicate (r.length-k) 0:=by
      unfold cmpZ
      rw[d,h,b.2.2.1]
     rw[d]
     refine QeC ?_
     refine Wf () [] (by exact trivial) rfl ?_ ?_ ?_
     repeat'(first|exact ze3|refine ze2 ?_ ?_|refine ze4 ?_|exact ze5|fail)
     all_goals exact zp (by rw[s];exact Qf9 rfl)
  ·refine⟨a+1,⟨⟨by omega,by omega⟩,?_⟩,by omega,?_⟩
   ·rw[XB (by omega) (by omega),if_neg (by assumption),e.2,Xb3,List.getElem?_eq_getElem (by omega),Jb (by omega)]
    rfl
   exact zll
  ·show AWp _ _ _ _
   have c:cmpL l=l:=by
    have:=e.2
    rwa [Xas (by omega)]at this
   rw[QpN c,c]
   refine Qgf 2 l.length rfl rfl (Qc _) ?_
   refine QeC ?_
   refine Wf () [] (by exact trivial) rfl ?_ ?_ ?_
   all_goals exact zae
end
section
attribute [local irreducible] AWp QI OpOk ACalls ChA QsOk MCalls EnC PY

@[reducible] def Qhq (l:List Pt):List AV:=[zL (ptE l)]
@[reducible] def vecC (v:V3):List AV:=[zI v.a,zI v.b,zI v.c]
theorem W4{a b:Int}:Vx a b=true↔(0<=a/\a<=1000000000)/\(0<=b/\b<=1000000000)/\a<b:=by
 simp only[Vx,Xab,JA,decide_eq_true_eq,and_assoc]
theorem QsA{a b:Int}:zAc 254 [zI a,zI b] [.d (.b (Vx a b))] []:=by
 refine zAC func254 fun w0 Z=>?_
 repeat'(first|(refine zhm fun hb=>?_;try exact zab)|refine zUto ?_|refine zg2 ?_ ?_|refine zqj Vc ?_|intro _)
 all_goals
  refine zr [] ?_ ?_
  repeat'(first|exact ze3|refine ze2 ?_ ?_|refine ze4 ?_|exact ze5|fail)
  exact zp (by rw[Xam,W4];simp only[decide_eq_true_eq,XaZ,false_iff];omega)
def ptOk(l:List Pt)(j:Nat):Prop:=((0<=(nth l j).at'/\(nth l j).at'<=1000000000)/\Qf (nth l j).free=true)/\(0<j->(nth l (j-1)).at'<(nth l j).at'/\(nth l (j-1)).free≠(nth l j).free)
theorem Jy.pt{l:List Pt}(h:Jy l){j:Nat}(hj:j<l.length):ptOk l j:=⟨h.pts j hj,fun h0=>by
 have:=h.steps (j-1) (by omega)
 rwa [show j-1+1=j by omega]at this⟩
theorem QiE{l:List Pt}(h1:1<=l.length/\l.length<=200)(h2:(nth l 0).at'=0)(h3:∀j,j<l.length->ptOk l j):Jy l:=
 ⟨h1,h2,fun j hj=>(h3 j hj).1,fun j hj=>(h3 (j+1) hj).2 (by omega)⟩
theorem QfA{u v:V3}:(u.a==v.a&&(u.b==v.b&&(u.c==v.c&&true)))=true↔u=v:=by
 cases u;cases v;simp
theorem Qfr{u v:V3}:(u.a==v.a&&(u.b==v.b&&(u.c==v.c&&true)))=false↔u≠v:=by
 cases u;cases v;simp
theorem QhU{l:List Pt}(hl:l.length<=1000000000):zAc 253 [Qav l] [.d (.b (JS l))] []:=by
 refine zAC func253 fun w0 Z=>?_
 have k:(ptE l).length=l.length:=JN l
 repeat'(first|(refine zhm fun hb=>?_;try exact zab)|refine Qd ?_|(apply zch;exact zcg)|exact zhk|refine zg3 ?_ ?_|refine zqd QV ?_|intro _)
 any_goals
  rw[show JS l=false from Qbs.2 fun h=>by have g:=h.len;have f:=h.zero;omega]
  refine zr [] ?_ ?_
  repeat'(first|exact ze3|refine ze2 ?_ ?_|refine ze4 ?_|exact ze5|fail)
  all_goals exact zp rfl
 refine Qa (fun(i:Nat)=>⟨65,[(1,.ptr 1 0),(19,zL (ptE l)),(20,zI (l.length:Nat)),(21,zI i)],[(1,.box 178 (Qhq l))]⟩) (fun i=>i<=l.length/\∀j,j<i->ptOk l j) (fun i=>l.length-i) 0 (by exact⟨Xad _,fun j hj=>absurd hj (Xar _)⟩) ?_ ?_
 ·exact zll
 ·rintro i ⟨hi,c⟩
  repeat'(first|(refine zhm fun hb=>?_;try exact zab)|refine Qd ?_|(apply zch;exact zcg)|exact zhk|refine zg3 ?_ ?_|refine zqd Vc ?_|refine kc (Yy (v:=(nth l i).free)) rfl rfl ?_|refine kq (Yy (v:=(nth l i).free)) rfl rfl ?_|intro _)
  any_goals
   rw[show JS l=false from Qbs.2 fun h=>by
    have a:=h.pt (j:=i) (by omega)
    have g:=a.1.1
    first
     | omega
     | (have f:=a.1.2;simp_all;done)
     | (have f:=a.2 (by omega);omega)
     | exact(a.2 (by omega)).2 (QfA.1 (by assumption))]
   refine zr [] ?_ ?_
   repeat'(first|exact ze3|refine ze2 ?_ ?_|refine ze4 ?_|exact ze5|fail)
   all_goals exact zp rfl
  ·refine⟨i+1,⟨by omega,fun j hj=>?_⟩,by omega,?_⟩
   ·by_cases e:j=i
    ·subst e;exact⟨⟨by assumption,by assumption⟩,fun _=>⟨by omega,Qfr.1 (by assumption)⟩⟩
    ·exact c j (by omega)
   exact zll
  ·refine⟨i+1,⟨by omega,fun j hj=>?_⟩,by omega,?_⟩
   ·by_cases e:j=i
    ·subst e;exact⟨⟨by assumption,by assumption⟩,fun h=>absurd h (by omega)⟩
    ·exact c j (by omega)
   exact zll
  ·rw[show JS l=true from JH.2 (QiE (by omega) (by omega) fun j hj=>c j (by omega))]
   exact zrr
theorem Qbv{l:List Pt}(hl:l.length<=1000000000):zAc 273 [Qav l] [.d (.b (JS l))] []:=by
 refine zAC func273 fun w0 Z=>?_
 have m:(ptE l).length=l.length:=JN l
 repeat'(first|(refine zhm fun hb=>?_;try exact zab)|refine Qd ?_|(apply zch;exact zcg)|exact zhk|refine zg3 ?_ ?_|intro _)
 any_goals
  rw[show JS l=false from Qbs.2 fun h=>by have k:=h.len;have g:=h.zero;omega]
  refine zr [] ?_ ?_
  repeat'(first|exact ze3|refine ze2 ?_ ?_|refine ze4 ?_|exact ze5|fail)
  all_goals exact zp rfl
 refine Qa (fun(i:Nat)=>⟨70,[(1,.ptr 1 0),(24,zL (ptE l)),(25,zI (l.length:Nat)),(26,zI i)],[(1,.box 178 (Qhq l))]⟩) (fun i=>i<=l.length/\∀j,j<i->ptOk l j) (fun i=>l.length-i) 0 (by exact⟨Xad _,fun j hj=>absurd hj (Xar _)⟩) ?_ ?_
 ·exact zll
 ·rintro i ⟨hi,f⟩
  repeat'(first|(refine zhm fun hb=>?_;try exact zab)|refine Qd ?_|(apply zch;exact zcg)|exact zhk|refine zg3 ?_ ?_|refine zqd Wl ?_|refine kc (J5 (v:=(nth l i).free)) rfl rfl ?_|refine kq (J5 (v:=(nth l i).free)) rfl rfl ?_|intro _)
  any_goals
   rw[show JS l=false from Qbs.2 fun h=>by
    have c:=h.pt (j:=i) (by omega)
    have k:=c.1.1
    first
     | omega
     | (have g:=c.1.2;simp_all;done)
     | (have g:=c.2 (by omega);omega)
     | exact(c.2 (by omega)).2 (QfA.1 (by assumption))]
   refine zr [] ?_ ?_
   repeat'(first|exact ze3|refine ze2 ?_ ?_|refine ze4 ?_|exact ze5|fail)
   all_goals exact zp rfl
  ·refine⟨i+1,⟨by omega,fun j hj=>?_⟩,by omega,?_⟩
   ·by_cases e:j=i
    ·subst e;exact⟨⟨by assumption,by assumption⟩,fun _=>⟨by omega,Qfr.1 (by assumption)⟩⟩
    ·exact f j (by omega)
   exact zll
  ·refine⟨i+1,⟨by omega,fun j hj=>?_⟩,by omega,?_⟩
   ·by_cases e:j=i
    ·subst e;exact⟨⟨by assumption,by assumption⟩,fun h=>absurd h (by omega)⟩
    ·exact f j (by omega)
   exact zll
  ·rw[show JS l=true from JH.2 (QiE (by omega) (by omega) fun j hj=>f j (by omega))]
   exact zrr
theorem Qn3(l:List Pt)(p:Pt)(t:Int):QL (l++[p]) t=if p.at'<=t then p.free else QL l t:=by
 simp[QL,List.foldl_append]
theorem Qo{α:Type}[Inhabited α]{l:List α}{i:Nat}(h:i<l.length):l.take (i+1)=l.take i++[nth l i]:=by
 rw[Xb3,List.getElem?_eq_getElem h,Jb h]
 rfl
theorem WV{l:List Pt}{i:Nat}(h:i<l.length)(t:Int):QL (l.take (i+1)) t=if(nth l i).at'<=t then(nth l i).free else QL (l.take i) t:=by
 rw[Qo h,Qn3]
theorem Qim{l:List Pt}{t:Int}(hl:l.length<=1000000000):zAc 294 [Qav l,zI t] [vecA (QL l t)] []:=by
 refine zAC func294 fun w0 Z=>?_
 repeat'(first|(refine zhm fun hb=>?_;try exact zab)|refine zUtp ?_|refine zg2 ?_ ?_|intro _)
 refine Qa (fun(i:Nat)=>⟨24,[(1,zI t),(4,.ptr 4 0),(5,.ptr 5 0),(10,zL (ptE l)),(11,zI (l.length:Nat)),(12,zI i)],[(4,.box 29 (vecC zV)),(5,.box 29 (vecC (QL (l.take i) t)))]⟩) (fun i=>i<=l.length) (fun i=>l.length-i) 0 (by exact Xad _) ?_ ?_
 ·exact zll
 ·intro i hi
  repeat'(first|(refine zhm fun hb=>?_;try exact zab)|refine zUtp ?_|refine zg2 ?_ ?_|intro _)
  ·refine⟨i+1,by omega,by omega,?_⟩
   refine⟨rfl,?_,?_,rfl⟩
   repeat'(first|exact ze3|refine ze2 ?_ ?_|refine ze4 ?_|exact ze5|fail)
   all_goals exact zp (by first|rfl|(rw[WV (by omega),if_pos (by assumption)]))
  ·refine⟨i+1,by omega,by omega,?_⟩
   refine⟨rfl,?_,?_,rfl⟩
   repeat'(first|exact ze3|refine ze2 ?_ ?_|refine ze4 ?_|exact ze5|fail)
   all_goals exact zp (by first|rfl|(rw[WV (by omega),if_neg (by assumption)]))
  ·rw[show QL l t=QL (l.take i) t by rw[Xas (by omega)]]
   exact zrr
theorem Qek{l:List Pt}{t:Int}(hl:l.length<=1000000000):zAc 340 [Qav l,zI t] [vecA (QL l t)] []:=by
 refine zAC func340 fun w0 Z=>?_
 repeat'(first|(refine zhm fun hb=>?_;try exact zab)|refine zUtp ?_|refine zg2 ?_ ?_|intro _)
 refine Qa (fun(i:Nat)=>⟨24,[(1,zI t),(4,.ptr 4 0),(5,.ptr 5 0),(10,zL (ptE l)),(11,zI (l.length:Nat)),(12,zI i)],[(4,.box 29 (vecC zV)),(5,.box 29 (vecC (QL (l.take i) t)))]⟩) (fun i=>i<=l.length) (fun i=>l.length-i) 0 (by exact Xad _) ?_ ?_
 ·exact zll
 ·intro i hi
  repeat'(first|(refine zhm fun hb=>?_;try exact zab)|refine zUtp ?_|refine zg2 ?_ ?_|intro _)
  ·refine⟨i+1,by omega,by omega,?_⟩
   refine⟨rfl,?_,?_,rfl⟩
   repeat'(first|exact ze3|refine ze2 ?_ ?_|refine ze4 ?_|exact ze5|fail)
   all_goals exact zp (by first|rfl|(rw[WV (by omega),if_pos (by assumption)]))
  ·refine⟨i+1,by omega,by omega,?_⟩
   refine⟨rfl,?_,?_,rfl⟩
   repeat'(first|exact ze3|refine ze2 ?_ ?_|refine ze4 ?_|exact ze5|fail)
   all_goals exact zp (by first|rfl|(rw[WV (by omega),if_neg (by assumption)]))
  ·rw[show QL l t=QL (l.take i) t by rw[Xas (by omega)]]
   exact zrr
def newP(v:V3):List Pt:=if Qf v=true then[⟨0,v⟩] else[]
theorem Qa4{v:V3}(hv:Qf v=true):zAc 250 [vecA v] [.agg [.row 0],.d (.b true)] [(0,.row 282 (ptE [⟨0,v⟩]) true)]:=by
 refine zAC func250 fun w0 Z=>?_
 have a:=Yy (v:=v)
 rw[hv]at a
 repeat'(first|(refine zhm fun hb=>?_;try exact zab)|refine zUto ?_|refine zg2 ?_ ?_|intro _)
 exact zr [10] zae zae
theorem Yn{v:V3}(hv:Qf v=true):zAc 270 [vecA v] [.agg [.row 0],.d (.b true)] [(0,.row 282 (ptE [⟨0,v⟩]) true)]:=by
 refine zAC func270 fun w0 Z=>?_
 have a:=J5 (v:=v)
 rw[hv]at a
 repeat'(first|(refine zhm fun hb=>?_;try exact zab)|refine zUto ?_|refine zg2 ?_ ?_|intro _)
 exact zr [10] zae zae
end
end Go.Proofs.YtkdniahincpmaaaGreat
