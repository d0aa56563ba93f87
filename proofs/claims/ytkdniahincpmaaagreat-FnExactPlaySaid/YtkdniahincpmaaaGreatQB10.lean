/-
  Vectors: valid, VecAdd, VecSub, VecMin, VecFits, both.
-/
import Derived.Test.YtkdniahincpmaaaGreatQB9
import Derived.Test.YtkdniahincpmaaaGreatQB25
import Derived.Sort.OwnSortedInts
set_option maxRecDepth 100000
set_option maxHeartbeats 16000000
namespace Go.Proofs.YtkdniahincpmaaaGreat
open Go Go.RowKit Tryz
section
attribute [local irreducible] AWp QM OpOk ACalls ChA QsOk MCalls EnC PY

def addV(a b:V3):V3:=⟨a.a+b.a,a.b+b.b,a.c+b.c⟩
def Qgv(a b:V3):V3:=⟨a.a-b.a,a.b-b.b,a.c-b.c⟩
def minV(a b:V3):V3:=⟨min a.a b.a,min a.b b.b,min a.c b.c⟩
def valO(a b v:V3):Option V3:=if(Qh a&&(Qh b&&Qh v))=true then some v else none
@[reducible] def resV (o:Option V3):List AV:=[vecA (o.getD zV),.d (.b o.isSome)]
def Za(a b:V3):Bool:=Qh a&&(Qh b&&(decide (a.a<=b.a)&&(decide (a.b<=b.b)&&decide (a.c<=b.c))))
def addO(a b:V3):Option V3:=valO a b (addV a b)
def subO(a b:V3):Option V3:=valO a b (Qgv a b)
def minO(a b:V3):V3:=(valO a b (minV a b)).getD zV
theorem WT{v:V3}(h:Qh v=true):(0<=v.a/\v.a<=1000000)/\(0<=v.b/\v.b<=1000000)/\0<=v.c/\v.c<=1000000:=by
 simp only[Qh,Xac,J4]at h
 exact⟨h.1.1,h.1.2,h.2⟩
theorem Qk2{v:V3}(h1:0<=v.a/\v.a<=1000000)(h2:0<=v.b/\v.b<=1000000)(h3:0<=v.c/\v.c<=1000000):Qh v=true:=by
 simp only[Qh,Xac,J4]
 exact⟨⟨h1,h2⟩,h3⟩
theorem Qmh{a b v:V3}(h:Qh a=false\/Qh b=false\/Qh v=false):valO a b v=none:=by
 unfold valO
 rw[if_neg]
 rcases h with h|h|h <;> simp[h]
theorem QrE{a b v:V3}(h1:Qh a=true)(h2:Qh b=true)(h3:Qh v=true):valO a b v=some v:=by
 unfold valO
 rw[if_pos]
 simp[h1,h2,h3]
theorem Qwz{a b:V3}(h1:Qh a=true)(h2:Qh b=true):Qh (minV a b)=true:=by
 obtain⟨a1,a2,a3⟩:=WT h1
 obtain⟨b1,b2,b3⟩:=WT h2
 exact Qk2 (by simp only[minV];omega) (by simp only[minV];omega) (by simp only[minV];omega)
theorem QuK{a b:V3}(h1:Qh a=true)(h2:Qh b=true):minO a b=minV a b:=by
 unfold minO
 rw[QrE h1 h2 (Qwz h1 h2)]
 rfl
theorem Qur{a b:V3}(h:Qh a=false\/Qh b=false):minO a b=zV:=by
 unfold minO
 rw[Qmh (h.imp id Or.inl)]
 rfl
theorem Xg{a b:V3}:Za a b=true↔Qh a=true/\Qh b=true/\a.a<=b.a/\a.b<=b.b/\a.c<=b.c:=by
 simp only[Za,Xac,decide_eq_true_eq]
theorem Quh{a b:V3}(h:Za b a=true):subO a b=some (Qgv a b):=by
 obtain⟨c,d,h3,h4,h5⟩:=Xg.1 h
 obtain⟨a1,a2,a3⟩:=WT c
 obtain⟨b1,b2,b3⟩:=WT d
 exact QrE d c (Qk2 (by simp only[Qgv];omega) (by simp only[Qgv];omega) (by simp only[Qgv];omega))
theorem Qui{a b:V3}(h:Za b a=false):subO a b=none:=by
 cases hb:(Qh a&&(Qh b&&Qh (Qgv a b))) with
 | false=>unfold subO valO;rw[hb];rfl
 | true=>
  simp only[Xac]at hb
  obtain⟨f,g,i⟩:=hb
  obtain⟨c,d,e⟩:=WT i
  simp only[Qgv]at c d e
  rw[Xg.2 ⟨g,f,by omega,by omega,by omega⟩]at h
  cases h
theorem Qoi{a b v:V3}:zAc 63 [vecA a,vecA b,vecA v] (resV (valO a b v)) []:=by
 refine zAC func63 fun w0 Z=>?_
 repeat'(first|(refine zhm fun hb=>?_;try exact zab)|refine zUto ?_|refine zg2 ?_ ?_|refine kc (Yu (v:=a)) rfl rfl ?_|refine kc (Yu (v:=b)) rfl rfl ?_|refine kc (Yu (v:=v)) rfl rfl ?_|intro _)
 ·rw[Qmh (Or.inl (by assumption))]
  exact zrr
 ·rw[Qmh (Or.inr (Or.inl (by assumption)))]
  exact zrr
 ·rw[Qmh (Or.inr (Or.inr (by assumption)))]
  exact zrr
 ·rw[QrE (by assumption) (by assumption) (by assumption)]
  exact zrr
theorem QtX{a b:V3}(ha:Qh a=true)(hb':Qh b=true):zAc 257 [vecA a,vecA b] (resV (subO a b)) []:=by
 refine zAC func257 fun w0 Z=>?_
 obtain⟨a1,a2,a3⟩:=WT ha
 obtain⟨b1,b2,b3⟩:=WT hb'
 repeat'(first|(refine zhm fun hb=>?_;try exact zab)|refine zUtn ?_|refine zg2 ?_ ?_|refine kc (Qoi (a:=a) (b:=b) (v:=Qgv a b)) rfl rfl ?_|intro _)
 exact zrr
theorem QtN{a b:V3}:zAc 298 [vecA a,vecA b] [vecA (minO a b)] []:=by
 refine zAC func298 fun w0 Z=>?_
 repeat'(first|(refine zhm fun hb=>?_;try exact zab)|refine zUto ?_|refine zg2 ?_ ?_|refine kc (Qoi (a:=a) (b:=b) (v:=minV a b)) rfl rfl ?_|intro _)
 exact zrr
theorem Qji{a b:V3}:zAc 19 [vecA a,vecA b] [.d (.b (Za a b))] []:=by
 refine zAC func19 fun w0 Z=>?_
 repeat'(first|(refine zhm fun hb=>?_;try exact zab)|refine zUto ?_|refine zg2 ?_ ?_|refine kc (Yu (v:=a)) rfl rfl ?_|refine kc (Yu (v:=b)) rfl rfl ?_|intro _)
 all_goals
  refine zr [] ?_ ?_
  repeat'(first|exact ze3|refine ze2 ?_ ?_|refine ze4 ?_|exact ze5|fail)
  refine zp ?_
  first
   | done
   | (rw[Bool.eq_iff_iff];simp[Za, *];done)
   | (rw[Bool.eq_iff_iff];simp[Za, *];omega)
theorem QeD{a b:V3}:zAc 306 [vecA a,vecA b] [.d (.b (Za a b))] []:=by
 refine zAC func306 fun w0 Z=>?_
 repeat'(first|(refine zhm fun hb=>?_;try exact zab)|refine zUto ?_|refine zg2 ?_ ?_|refine kc (J9 (v:=a)) rfl rfl ?_|refine kc (J9 (v:=b)) rfl rfl ?_|intro _)
 all_goals
  refine zr [] ?_ ?_
  repeat'(first|exact ze3|refine ze2 ?_ ?_|refine ze4 ?_|exact ze5|fail)
  refine zp ?_
  first
   | done
   | (rw[Bool.eq_iff_iff];simp[Za, *];done)
   | (rw[Bool.eq_iff_iff];simp[Za, *];omega)
theorem Qdw{a b:V3}:zAc 344 [vecA a,vecA b] (resV (subO a b)) []:=by
 refine zAC func344 fun w0 Z=>?_
 have d:=QeD (a:=b) (b:=a)
 cases c:Za b a with
 | false=>
  rw[c]at d
  repeat'(first|(refine zhm fun hb=>?_;try exact zab)|refine zUto ?_|refine zg2 ?_ ?_|intro _)
  rw[Qui c]
  exact zrr
 | true=>
  rw[c]at d
  obtain⟨e,f,h3,h4,h5⟩:=Xg.1 c
  obtain⟨a1,a2,a3⟩:=WT e
  obtain⟨b1,b2,b3⟩:=WT f
  repeat'(first|(refine zhm fun hb=>?_;try exact zab)|refine zUtn ?_|refine zg2 ?_ ?_|intro _)
  rw[Quh c]
  exact zrr
theorem QrZ{a b:Int}:zAc 365 [zI a,zI b] [zI (min a b)] []:=by
 refine zAC func365 fun w0 Z=>?_
 repeat'(first|(refine zhm fun hb=>?_;try exact zab)|refine zUto ?_|refine zg2 ?_ ?_|intro _)
 all_goals
  refine zr [] ?_ ?_
  repeat'(first|exact ze3|refine ze2 ?_ ?_|refine ze4 ?_|exact ze5|fail)
  all_goals exact zp (by omega)
theorem Qto{a b:V3}:zAc 341 [vecA a,vecA b] [vecA (minO a b)] []:=by
 refine zAC func341 fun w0 Z=>?_
 repeat'(first|(refine zhm fun hb=>?_;try exact zab)|refine QcZ ?_|(apply zch;exact zcg)|exact zhk|refine zg3 ?_ ?_|refine kc (J9 (v:=a)) rfl rfl ?_|refine kc (J9 (v:=b)) rfl rfl ?_|refine zqd QrZ ?_|refine kq (J9 (v:=a)) rfl rfl ?_|refine kq (J9 (v:=b)) rfl rfl ?_|intro _)
 ·rw[Qur (Or.inl (by assumption))]
  exact zrr
 ·rw[Qur (Or.inr (by assumption))]
  exact zrr
 ·rw[QuK (by assumption) (by assumption)]
  exact zrr
end
section
attribute [local irreducible] AWp QM OpOk ACalls ChA QsOk EnC PY

theorem Qf8(w:World)(r:Option Nat):w.grownBy w r:=⟨rfl,rfl,rfl,Xaj _,fun _ _ _=>rfl⟩
theorem Qqj{l:List Int}{d:Bool}(hl:l.length<=1000000000):MCalls Tryz.prog 261 [.row 1000000] [(1000000,.row 3 (intE l) d)] (fun _:Unit=>True) (fun _=>[]) (fun _=>[(1000000,.row 3 (intE (srtI l)) d)]) (fun _=>[]):=by
 refine QnS (z:=1) ti3.sized (QV fun _=>rfl) (QV fun _=>rfl) (JT (f:=fun(x:Int)=>[D.n .i64 x]) (fun _=>rfl) (Yj l)) (fun h w'=>Go.MuLone.run_callFunc_enter func261 rfl rfl h w') ?_
 intro w v h c j
 rw[Vq j,Qc]at c
 rw[Qc]
 rcases c.2 with ⟨hv,hn⟩|⟨g,cap,cur,hv,hbg,hg,hnc,hcm,hcs,htake⟩
 ·have b:l=[]:=Xbl.1 hn
  subst b;subst hv
  have a:=AnyM.slices_Sort_int_none Tryz.sortI none 0 w
  change Calls Tryz.prog 261 _ _ _ at a
  exact a.mono fun e w' ⟨he,hw⟩=>by
   subst hw
   have i:srtI []=[]:=Xaz (Yj [])
   rw[i]
   exact⟨he,Qf8 _ _,[],c,rfl,rfl⟩
 ·subst hv
  rw[Nat.mul_one]at htake
  have a:=AnyM.slices_Sort_int Tryz.sortI g 0 cap l w (holds_of_blockI hg htake) (Array.getElem?_eq_some_iff.1 hg).1 (by omega)
  change Calls Tryz.prog 261 _ _ _ at a
  exact a.mono fun e w' ⟨he,n,os,hw⟩=>by
   subst hw
   exact⟨he,grownBy_sortedI _,(srtI l).map (Value.int .i64),ownsRow_sortedI (Yj l) (Xae _) hg hnc hcm hcs,Qel _ _⟩
theorem Qb8:∀(l:List Int) (x y:Int),Qcx x (l++[y])=Qcx x l++(if y=(x::l).getLast (by simp) then[] else[y])
 | [],x,y=>by
  simp only[Xba,Qcx,List.getLast_singleton]
  rfl
 | z::l,x,y=>by
  simp only[Xbp,Qcx]
  by_cases hz:z=x
  ·subst hz
   rw[if_pos rfl,if_pos rfl,Qb8 l z y]
   simp only[List.getLast_cons_cons]
   rfl
  ·rw[if_neg hz,if_neg hz,Qb8 l z y,Xbp]
   simp only[List.getLast_cons_cons]
   rfl
theorem Xh{l:List Int}{m:Nat}(h1:1<=m)(h2:m<l.length):cmpL (l.take (m+1))=cmpL (l.take m)++(if nth l m=nth l (m-1) then[] else[nth l m]):=by
 rw[Xb6,List.getElem?_eq_getElem h2,<-Jd h2]
 cases l with
 | nil=>simp at h2
 | cons x l=>
  obtain⟨k,rfl⟩:∃k,m=k+1:=⟨m-1,by omega⟩
  simp only[XcB,Option.toList_some,Xbp,cmpL]
  rw[Qb8]
  have e:(x::l.take k).getLast (by simp)=nth (x::l) (k+1-1):=by
   rw[Jd (by omega),List.getLast_eq_getElem]
   simp only[Xap,Xah,Xb1]
   have:min k l.length=k:=by simp at h2;omega
   cases k with
   | zero=>simp
   | succ k=>simp[this]
  rw[e]
theorem Ql3{l:List Int}(h:1<=l.length):cmpL (l.take 1)=l.take 1:=by
 cases l with
 | nil=>simp at h
 | cons x l=>simp[cmpL,Qcx]
theorem Qld(l:List Int):∀m,m<=l.length->(cmpL (l.take m)).length<=m
 | 0,_=>by simp[cmpL]
 | m+1,h=>by
  by_cases h0:m=0
  ·subst h0;rw[Ql3 (by omega)];simp;omega
  ·rw[Xh (by omega) (by omega),Xab]
   have:=Qld l m (by omega)
   split <;> simp <;> omega
def cpA(l:List Int)(i:Nat):Prop:=(1<=i/\i<=l.length)/\cmpL (l.take i)=l.take i
def cpB(l:List Int)(k0:Nat)(x:List Int×Nat×Nat):Prop:=
 (1<=x.2.2/\x.2.2<=l.length-k0/\x.1.length=l.length/\1<=x.2.1/\x.2.1+1<=k0+x.2.2)/\x.1.take x.2.1=cmpL (l.take (k0+x.2.2))/\x.1.drop x.2.1=l.drop x.2.1
theorem QhL{l r:List Int}{k j:Nat}(h:r.drop k=l.drop k)(hj:k<=j)(h1:j<l.length)(h2:j<r.length):nth r j=nth l j:=by
 rw[Jd h1,Jd h2]
 have a:(r.drop k)[j-k]?=(l.drop k)[j-k]?:=by rw[h]
 rw[List.getElem?_drop,List.getElem?_drop,show k+(j-k)=j by omega,List.getElem?_eq_getElem h1,List.getElem?_eq_getElem h2]at a
 simpa using a
theorem Qyv{l:List Int}{k0:Nat}(h:cpA l k0)(h1:k0<l.length)(h2:nth l k0=nth l (k0-1)):cpB l k0 (l,k0,1):=by
 obtain⟨⟨a,h4⟩,b⟩:=h
 refine⟨⟨Xaj _,by dsimp only;omega,rfl,a,by dsimp only;omega⟩,?_,rfl⟩
 dsimp only
 rw[Xh a h1,if_pos h2,Xa3,b]
theorem Qtg{l:List Int}{k0:Nat}{r:List Int}{k m:Nat}(h:cpB l k0 (r,k,m))(h1:k0+m<l.length)(h2:nth r (k0+m)=nth r (k0+(m-1))):cpB l k0 (r,k,m+1):=by
 obtain⟨⟨e,f,b,c,g⟩,d,a⟩:=h
 dsimp only at e f b c g d a
 rw[QhL a (by omega) h1 (by omega),QhL a (by omega) (by omega) (by omega)]at h2
 refine⟨⟨by dsimp only;omega,by dsimp only;omega,b,c,by dsimp only;omega⟩,?_,a⟩
 dsimp only
 rw[<-XbH,Xh (by omega) h1,if_pos (by rw[h2];congr 1;omega),Xa3]
 exact d
theorem Qwf{l:List Int}{k0:Nat}{r:List Int}{k m:Nat}(h:cpB l k0 (r,k,m))(h1:k0+m<l.length)(h2:nth r (k0+m)≠nth r (k0+(m-1))):cpB l k0 (r.set k (nth r (k0+m)),k+1,m+1):=by
 obtain⟨⟨d,f,b,g,i⟩,c,a⟩:=h
 dsimp only at d f b g i c a
 have e:=QhL a (by omega) h1 (by omega)
 have n:=QhL (j:=k0+(m-1)) a (by omega) (by omega) (by omega)
 rw[e,n]at h2
 refine⟨⟨by dsimp only;omega,by dsimp only;omega,by dsimp only;rw[Xaw];exact b,by dsimp only;omega,by dsimp only;omega⟩,?_,?_⟩
 ·dsimp only
  rw[<-XbH,Xh (by omega) h1,if_neg (by rw[show k0+m-1=k0+(m-1) by omega];exact h2),<-c,e]
  rw[Xb6,List.take_set_of_le (Xaj _),List.getElem?_set_self (by omega)]
  rfl
 ·dsimp only
  rw[List.drop_set_of_lt (by omega)]
  have:(r.drop k).drop 1=(l.drop k).drop 1:=by rw[a]
  simpa [List.drop_drop] using this
def cmpZ(l:List Int):List Int:=cmpL l++List.replicate (l.length-(cmpL l).length) 0
theorem QqH(l:List Int):(cmpL l).length<=l.length:=by
 have:=Qld l l.length (Xaj _)
 rwa [Xal]at this
theorem Qpr{l:List Int}(h:cmpL l=l):cmpZ l=l:=by
 unfold cmpZ
 rw[h,Xb4]
 simp
theorem Qr9(l:List Int):(cmpZ l).length=l.length:=by
 have:=QqH l
 simp only[cmpZ,Xab,Xbt]
 omega
theorem QpY(l:List Int)(k:Nat):(intE l).take k=intE (l.take k):=by simp[intE,List.map_take]
theorem Qhi(l:List Int)(k:Nat)(x:Int):(intE l).set k [.n .i64 x]=intE (l.set k x):=by simp[intE,List.map_set]
theorem Qf0{r:List Int}{k n:Nat}(h:r.length=n):(intE r).take k++(List.replicate (n-k) [.n .i64 0]++(intE r).drop n)=intE (r.take k++List.replicate (n-k) 0):=by
 have e:(intE r).drop n=[]:=Xbb (by rw[Qc];omega)
 rw[e,Xa3]
 simp[intE,List.map_take]
theorem Qis{l:List Int}(hl:l.length<=1000000000):MCalls Tryz.prog 262 [.row 1000000] [(1000000,.row 3 (intE l) true)] (fun _:Unit=>True) (fun _=>[.sub 1000000 0 (cmpL l).length]) (fun _=>[(1000000,.row 3 (intE (cmpZ l)) true)]) (fun _=>[]):=by
 refine Jb tt func262 rfl rfl rfl ⟨.inr (.inl (QV (fun _=>rfl))),trivial⟩ (fun _ _=>⟨⟨⟨rfl,rfl,(JT (f:=fun(x:Int)=>[D.n .i64 x]) (fun _=>rfl) (Qr9 l)).symm⟩,trivial⟩,.inr (.inl (QV (fun _=>rfl))),trivial⟩) (fun w0 Z O=>?_)
 have p:(intE l).length=l.length:=Qc l
 repeat'(first|(refine zhm fun hb=>?_;try exact zab)|refine Q2 ?_|(apply zch;exact zcg)|exact zhk|refine zg3 ?_ ?_|intro _)
 ·show AWp _ _ _ _
  have c:cmpL l=l:=by
   cases l with
   | nil=>rfl
   | cons x l=>
    cases l with
    | nil=>rfl
    | cons y l=>simp at *;omega
  rw[Qpr c,c]
  refine QfV 2 l.length rfl rfl (Qc _) ?_
  refine Qe3 ?_
  refine Jk () [] (by exact trivial) rfl ?_ ?_ ?_
  all_goals exact zae
 refine Qa (fun(i:Nat)=>⟨61,[(0,.row 1000000),(3,zI i)],[(1000000,.row 3 (intE l) true)]⟩) (cpA l) (fun i=>l.length-i) 1 (by exact⟨⟨Xaj _,by omega⟩,Ql3 (by omega)⟩) ?_ ?_
 ·exact zll
 ·intro a e
  have j:=e.1
  repeat'(first|(refine zhm fun hb=>?_;try exact zab)|refine Q2 ?_|(apply zch;exact zcg)|exact zhk|refine zg3 ?_ ?_|intro _)
  ·refine Qa (fun(x:List Int×Nat×Nat)=>⟨61,[(0,.row 1000000),(3,zI x.2.1),(4,.sub 1000000 a l.length),(5,zI x.2.2)],[(1000000,.row 3 (intE x.1) true)]⟩) (cpB l a) (fun x=>l.length-x.2.2) (l,a,1) (Qyv e (by omega) (by assumption)) ?_ ?_
   ·exact zll
   ·rintro ⟨r,k,m⟩ g
    have b:=g.1
    dsimp only at b
    have q:(intE r).length=r.length:=Qc r
    have o:((intE r).take k++(List.replicate (r.length-k) [D.n .i64 0]++(intE r).drop r.length)).length=r.length:=by
     rw[Qf0 rfl,Qc];simp;omega
    dsimp only
    repeat'(first|(refine zhm fun hb=>?_;try exact zab)|refine Q2 ?_|(apply zch;exact zcg)|exact zhk|refine zg3 ?_ ?_|intro _)
    ·refine⟨(r.set k (nth r (a+m)),k+1,m+1),Qwf g (by omega) (by assumption),by dsimp only;omega,?_⟩
     refine zag ?_;exact zp (Qhi _ _ _)
    ·exact⟨(r,k,m+1),Qtg g (by omega) (by assumption),by dsimp only;omega,zll⟩
    ·show AWp _ _ _ _
     have h:cmpL l=r.take k:=by
      have:=g.2.1
      dsimp only at this
      rw[Xay (l:=l) (i:=a+m) (by omega)]at this
      exact this.symm
     have d:(cmpL l).length=k:=by rw[h,Xah];omega
     have s:cmpZ l=r.take k++List.replicate (r.length-k) 0:=by
      unfold cmpZ
      rw[d,h,b.2.2.1]
     rw[d]
     refine Qe3 ?_
     refine Jk () [] (by exact trivial) rfl ?_ ?_ ?_
     repeat'(first|exact ze3|refine ze2 ?_ ?_|refine ze4 ?_|exact ze5|fail)
     all_goals exact zp (by rw[s];exact Qf0 rfl)
  ·refine⟨a+1,⟨⟨by omega,by omega⟩,?_⟩,by omega,?_⟩
   ·rw[Xh (by omega) (by omega),if_neg (by assumption),e.2,Xb6,List.getElem?_eq_getElem (by omega),Jd (by omega)]
    rfl
   exact zll
  ·show AWp _ _ _ _
   have c:cmpL l=l:=by
    have:=e.2
    rwa [Xay (by omega)]at this
   rw[Qpr c,c]
   refine QfV 2 l.length rfl rfl (Qc _) ?_
   refine Qe3 ?_
   refine Jk () [] (by exact trivial) rfl ?_ ?_ ?_
   all_goals exact zae
end
section
attribute [local irreducible] AWp QM OpOk ACalls ChA QsOk MCalls EnC PY

@[reducible] def Qhw (l:List Pt):List AV:=[zL (ptE l)]
@[reducible] def vecC (v:V3):List AV:=[zI v.a,zI v.b,zI v.c]
theorem Vc{a b:Int}:Vm a b=true↔(0<=a/\a<=1000000000)/\(0<=b/\b<=1000000000)/\a<b:=by
 simp only[Vm,Xac,J4,decide_eq_true_eq,and_assoc]
theorem QtJ{a b:Int}:zAc 254 [zI a,zI b] [.d (.b (Vm a b))] []:=by
 refine zAC func254 fun w0 Z=>?_
 repeat'(first|(refine zhm fun hb=>?_;try exact zab)|refine zUto ?_|refine zg2 ?_ ?_|refine zqj W7 ?_|intro _)
 all_goals
  refine zr [] ?_ ?_
  repeat'(first|exact ze3|refine ze2 ?_ ?_|refine ze4 ?_|exact ze5|fail)
  exact zp (by rw[Xan,Vc];simp only[decide_eq_true_eq,XaT,false_iff];omega)
def ptOk(l:List Pt)(j:Nat):Prop:=((0<=(nth l j).at'/\(nth l j).at'<=1000000000)/\Qh (nth l j).free=true)/\(0<j->(nth l (j-1)).at'<(nth l j).at'/\(nth l (j-1)).free≠(nth l j).free)
theorem Jx.pt{l:List Pt}(h:Jx l){j:Nat}(hj:j<l.length):ptOk l j:=⟨h.pts j hj,fun h0=>by
 have:=h.steps (j-1) (by omega)
 rwa [show j-1+1=j by omega]at this⟩
theorem QhY{l:List Pt}(h1:1<=l.length/\l.length<=200)(h2:(nth l 0).at'=0)(h3:∀j,j<l.length->ptOk l j):Jx l:=
 ⟨h1,h2,fun j hj=>(h3 j hj).1,fun j hj=>(h3 (j+1) hj).2 (by omega)⟩
theorem Qfr{u v:V3}:(u.a==v.a&&(u.b==v.b&&(u.c==v.c&&true)))=true↔u=v:=by
 cases u;cases v;simp
theorem Qd1{u v:V3}:(u.a==v.a&&(u.b==v.b&&(u.c==v.c&&true)))=false↔u≠v:=by
 cases u;cases v;simp
theorem Qhy{l:List Pt}(hl:l.length<=1000000000):zAc 253 [Qah l] [.d (.b (JW l))] []:=by
 refine zAC func253 fun w0 Z=>?_
 have k:(ptE l).length=l.length:=JN l
 repeat'(first|(refine zhm fun hb=>?_;try exact zab)|refine Qd ?_|(apply zch;exact zcg)|exact zhk|refine zg3 ?_ ?_|refine zqd Q5 ?_|intro _)
 any_goals
  rw[show JW l=false from Qbc.2 fun h=>by have g:=h.len;have f:=h.zero;omega]
  refine zr [] ?_ ?_
  repeat'(first|exact ze3|refine ze2 ?_ ?_|refine ze4 ?_|exact ze5|fail)
  all_goals exact zp rfl
 refine Qa (fun(i:Nat)=>⟨65,[(1,.ptr 1 0),(19,zL (ptE l)),(20,zI (l.length:Nat)),(21,zI i)],[(1,.box 178 (Qhw l))]⟩) (fun i=>i<=l.length/\∀j,j<i->ptOk l j) (fun i=>l.length-i) 0 (by exact⟨Xae _,fun j hj=>absurd hj (Xaq _)⟩) ?_ ?_
 ·exact zll
 ·rintro i ⟨hi,c⟩
  repeat'(first|(refine zhm fun hb=>?_;try exact zab)|refine Qd ?_|(apply zch;exact zcg)|exact zhk|refine zg3 ?_ ?_|refine zqd W7 ?_|refine kc (Yu (v:=(nth l i).free)) rfl rfl ?_|refine kq (Yu (v:=(nth l i).free)) rfl rfl ?_|intro _)
  any_goals
   rw[show JW l=false from Qbc.2 fun h=>by
    have a:=h.pt (j:=i) (by omega)
    have g:=a.1.1
    first
     | omega
     | (have f:=a.1.2;simp_all;done)
     | (have f:=a.2 (by omega);omega)
     | exact(a.2 (by omega)).2 (Qfr.1 (by assumption))]
   refine zr [] ?_ ?_
   repeat'(first|exact ze3|refine ze2 ?_ ?_|refine ze4 ?_|exact ze5|fail)
   all_goals exact zp rfl
  ·refine⟨i+1,⟨by omega,fun j hj=>?_⟩,by omega,?_⟩
   ·by_cases e:j=i
    ·subst e;exact⟨⟨by assumption,by assumption⟩,fun _=>⟨by omega,Qd1.1 (by assumption)⟩⟩
    ·exact c j (by omega)
   exact zll
  ·refine⟨i+1,⟨by omega,fun j hj=>?_⟩,by omega,?_⟩
   ·by_cases e:j=i
    ·subst e;exact⟨⟨by assumption,by assumption⟩,fun h=>absurd h (by omega)⟩
    ·exact c j (by omega)
   exact zll
  ·rw[show JW l=true from JE.2 (QhY (by omega) (by omega) fun j hj=>c j (by omega))]
   exact zrr
theorem QbK{l:List Pt}(hl:l.length<=1000000000):zAc 273 [Qah l] [.d (.b (JW l))] []:=by
 refine zAC func273 fun w0 Z=>?_
 have m:(ptE l).length=l.length:=JN l
 repeat'(first|(refine zhm fun hb=>?_;try exact zab)|refine Qd ?_|(apply zch;exact zcg)|exact zhk|refine zg3 ?_ ?_|intro _)
 any_goals
  rw[show JW l=false from Qbc.2 fun h=>by have k:=h.len;have g:=h.zero;omega]
  refine zr [] ?_ ?_
  repeat'(first|exact ze3|refine ze2 ?_ ?_|refine ze4 ?_|exact ze5|fail)
  all_goals exact zp rfl
 refine Qa (fun(i:Nat)=>⟨70,[(1,.ptr 1 0),(24,zL (ptE l)),(25,zI (l.length:Nat)),(26,zI i)],[(1,.box 178 (Qhw l))]⟩) (fun i=>i<=l.length/\∀j,j<i->ptOk l j) (fun i=>l.length-i) 0 (by exact⟨Xae _,fun j hj=>absurd hj (Xaq _)⟩) ?_ ?_
 ·exact zll
 ·rintro i ⟨hi,f⟩
  repeat'(first|(refine zhm fun hb=>?_;try exact zab)|refine Qd ?_|(apply zch;exact zcg)|exact zhk|refine zg3 ?_ ?_|refine zqd Wh ?_|refine kc (J9 (v:=(nth l i).free)) rfl rfl ?_|refine kq (J9 (v:=(nth l i).free)) rfl rfl ?_|intro _)
  any_goals
   rw[show JW l=false from Qbc.2 fun h=>by
    have c:=h.pt (j:=i) (by omega)
    have k:=c.1.1
    first
     | omega
     | (have g:=c.1.2;simp_all;done)
     | (have g:=c.2 (by omega);omega)
     | exact(c.2 (by omega)).2 (Qfr.1 (by assumption))]
   refine zr [] ?_ ?_
   repeat'(first|exact ze3|refine ze2 ?_ ?_|refine ze4 ?_|exact ze5|fail)
   all_goals exact zp rfl
  ·refine⟨i+1,⟨by omega,fun j hj=>?_⟩,by omega,?_⟩
   ·by_cases e:j=i
    ·subst e;exact⟨⟨by assumption,by assumption⟩,fun _=>⟨by omega,Qd1.1 (by assumption)⟩⟩
    ·exact f j (by omega)
   exact zll
  ·refine⟨i+1,⟨by omega,fun j hj=>?_⟩,by omega,?_⟩
   ·by_cases e:j=i
    ·subst e;exact⟨⟨by assumption,by assumption⟩,fun h=>absurd h (by omega)⟩
    ·exact f j (by omega)
   exact zll
  ·rw[show JW l=true from JE.2 (QhY (by omega) (by omega) fun j hj=>f j (by omega))]
   exact zrr
theorem QnG(l:List Pt)(p:Pt)(t:Int):QN (l++[p]) t=if p.at'<=t then p.free else QN l t:=by
 simp[QN,List.foldl_append]
theorem QF{α:Type}[Inhabited α]{l:List α}{i:Nat}(h:i<l.length):l.take (i+1)=l.take i++[nth l i]:=by
 rw[Xb6,List.getElem?_eq_getElem h,Jd h]
 rfl
theorem WK{l:List Pt}{i:Nat}(h:i<l.length)(t:Int):QN (l.take (i+1)) t=if(nth l i).at'<=t then(nth l i).free else QN (l.take i) t:=by
 rw[QF h,QnG]
theorem Qiq{l:List Pt}{t:Int}(hl:l.length<=1000000000):zAc 294 [Qah l,zI t] [vecA (QN l t)] []:=by
 refine zAC func294 fun w0 Z=>?_
 repeat'(first|(refine zhm fun hb=>?_;try exact zab)|refine zUtp ?_|refine zg2 ?_ ?_|intro _)
 refine Qa (fun(i:Nat)=>⟨24,[(1,zI t),(4,.ptr 4 0),(5,.ptr 5 0),(10,zL (ptE l)),(11,zI (l.length:Nat)),(12,zI i)],[(4,.box 29 (vecC zV)),(5,.box 29 (vecC (QN (l.take i) t)))]⟩) (fun i=>i<=l.length) (fun i=>l.length-i) 0 (by exact Xae _) ?_ ?_
 ·exact zll
 ·intro i hi
  repeat'(first|(refine zhm fun hb=>?_;try exact zab)|refine zUtp ?_|refine zg2 ?_ ?_|intro _)
  ·refine⟨i+1,by omega,by omega,?_⟩
   refine⟨rfl,?_,?_,rfl⟩
   repeat'(first|exact ze3|refine ze2 ?_ ?_|refine ze4 ?_|exact ze5|fail)
   all_goals exact zp (by first|rfl|(rw[WK (by omega),if_pos (by assumption)]))
  ·refine⟨i+1,by omega,by omega,?_⟩
   refine⟨rfl,?_,?_,rfl⟩
   repeat'(first|exact ze3|refine ze2 ?_ ?_|refine ze4 ?_|exact ze5|fail)
   all_goals exact zp (by first|rfl|(rw[WK (by omega),if_neg (by assumption)]))
  ·rw[show QN l t=QN (l.take i) t by rw[Xay (by omega)]]
   exact zrr
theorem QeW{l:List Pt}{t:Int}(hl:l.length<=1000000000):zAc 340 [Qah l,zI t] [vecA (QN l t)] []:=by
 refine zAC func340 fun w0 Z=>?_
 repeat'(first|(refine zhm fun hb=>?_;try exact zab)|refine zUtp ?_|refine zg2 ?_ ?_|intro _)
 refine Qa (fun(i:Nat)=>⟨24,[(1,zI t),(4,.ptr 4 0),(5,.ptr 5 0),(10,zL (ptE l)),(11,zI (l.length:Nat)),(12,zI i)],[(4,.box 29 (vecC zV)),(5,.box 29 (vecC (QN (l.take i) t)))]⟩) (fun i=>i<=l.length) (fun i=>l.length-i) 0 (by exact Xae _) ?_ ?_
 ·exact zll
 ·intro i hi
  repeat'(first|(refine zhm fun hb=>?_;try exact zab)|refine zUtp ?_|refine zg2 ?_ ?_|intro _)
  ·refine⟨i+1,by omega,by omega,?_⟩
   refine⟨rfl,?_,?_,rfl⟩
   repeat'(first|exact ze3|refine ze2 ?_ ?_|refine ze4 ?_|exact ze5|fail)
   all_goals exact zp (by first|rfl|(rw[WK (by omega),if_pos (by assumption)]))
  ·refine⟨i+1,by omega,by omega,?_⟩
   refine⟨rfl,?_,?_,rfl⟩
   repeat'(first|exact ze3|refine ze2 ?_ ?_|refine ze4 ?_|exact ze5|fail)
   all_goals exact zp (by first|rfl|(rw[WK (by omega),if_neg (by assumption)]))
  ·rw[show QN l t=QN (l.take i) t by rw[Xay (by omega)]]
   exact zrr
def newP(v:V3):List Pt:=if Qh v=true then[⟨0,v⟩] else[]
theorem QaT{v:V3}(hv:Qh v=true):zAc 250 [vecA v] [.agg [.row 0],.d (.b true)] [(0,.row 282 (ptE [⟨0,v⟩]) true)]:=by
 refine zAC func250 fun w0 Z=>?_
 have a:=Yu (v:=v)
 rw[hv]at a
 repeat'(first|(refine zhm fun hb=>?_;try exact zab)|refine zUto ?_|refine zg2 ?_ ?_|intro _)
 exact zr [10] zae zae
theorem Yn{v:V3}(hv:Qh v=true):zAc 270 [vecA v] [.agg [.row 0],.d (.b true)] [(0,.row 282 (ptE [⟨0,v⟩]) true)]:=by
 refine zAC func270 fun w0 Z=>?_
 have a:=J9 (v:=v)
 rw[hv]at a
 repeat'(first|(refine zhm fun hb=>?_;try exact zab)|refine zUto ?_|refine zg2 ?_ ?_|intro _)
 exact zr [10] zae zae
end
end Go.Proofs.YtkdniahincpmaaaGreat
