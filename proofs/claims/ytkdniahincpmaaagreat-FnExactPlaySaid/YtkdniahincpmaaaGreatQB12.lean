/-
  The law's marks in slices of plain elements: what is written, and that it is held.
-/
import Derived.Test.YtkdniahincpmaaaGreatQGlA
set_option maxRecDepth 100000
set_option maxHeartbeats 16000000
namespace Go.Proofs.YtkdniahincpmaaaGreat
open Go Go.RowKit Tryz
section
attribute [local irreducible] AWp QM OpOk ACalls ChA QsOk MCalls EnC PY
def gI(k j:Nat):Int:=((k+1*j:Nat):Int)
def gN(k j:Nat):Qar:=⟨((k+4*j:Nat):Int),⟨((k+4*j+1:Nat):Int),((k+4*j+1+1:Nat):Int),((k+4*j+1+1+1:Nat):Int)⟩⟩
def gJ(k j:Nat):Job:=⟨((k+11*j:Nat):Int),((k+11*j+1:Nat):Int),((k+11*j+2:Nat):Int),⟨((k+11*j+3:Nat):Int),((k+11*j+4:Nat):Int),((k+11*j+5:Nat):Int)⟩,⟨((k+11*j+6:Nat):Int),((k+11*j+7:Nat):Int),((k+11*j+8:Nat):Int)⟩,((k+11*j+9:Nat):Int),((k+11*j+10:Nat):Int)⟩
def gE(k j:Nat):QbO:=⟨((k+3*j:Nat):Int),((k+3*j+1:Nat):Int),((k+3*j+1+1:Nat):Int)⟩
theorem Qko{l:List Qar}{k:Nat}(h:l.length<=1000000000)(hk:k<=10000000000000000):MCalls Tryz.prog 233 [.row 1000000,zI k] [(1000000,.row 62 (Qr l) true)] (fun(_:Unit)=>True) (fun _=>[zI ((k+4*l.length:Nat):Int)]) (fun _=>[(1000000,.row 62 (Qr (JQ (gN k) l.length)) true)]) (fun _=>[]):=by
 refine Jb tt func233 rfl rfl rfl ⟨.inl rfl,trivial⟩ (fun _ _=>⟨⟨⟨rfl,rfl,(JT (f:=(fun(n:Qar)=>([.n .i64 n.leaf,.n .i64 n.cap.a,.n .i64 n.cap.b,.n .i64 n.cap.c]:List D))) (z:=4) (fun _=>rfl) (QG _ _)).symm⟩,trivial⟩,.inl rfl,trivial⟩) (fun w0 Z O=>?_)
 repeat'(first|(refine zhm fun hb=>?_;try exact zab)|refine zUtp ?_|refine zg2 ?_ ?_|intro _)
 refine Qa (fun(i:Nat)=>⟨44,[(0,.row 1000000),(1,zI ((k+4*i:Nat):Int)),(5,zI i)],[(1000000,.row 62 (Qr (mkL (gN k) l i)) true)]⟩) (fun i=>i<=l.length) (fun i=>l.length-i) 0 (by omega) ?_ ?_
 ·exact zll
 ·intro i e
  have d:(Qr (mkL (gN k) l i)).length=l.length:=by rw[Qr,Xar,JO (gN k) l e]
  have g:=JO (gN k) l e
  repeat'(first|(refine zhm fun hb=>?_;try exact zab)|refine zUt ?_|refine zg2 ?_ ?_|(apply YV;first|(refine Vv rfl rfl rfl rfl rfl d (by omega) rfl rfl rfl rfl ?_)|(refine WY rfl rfl rfl rfl rfl d (by omega) (QcG (by omega)) rfl rfl rfl rfl ?_))|refine zln fun _=>?_|refine zop ?_|fail)
  ·refine⟨i+1,by omega,by omega,?_⟩
   refine zag ?_;exact zp (Qay (f:=(fun(n:Qar)=>([.n .i64 n.leaf,.n .i64 n.cap.a,.n .i64 n.cap.b,.n .i64 n.cap.c]:List D))) (by omega))
  ·obtain rfl:i=l.length:=by omega
   refine zm () [] (by exact trivial) ?_ ?_ ?_
   repeat'(first|exact ze3|refine ze2 ?_ ?_|refine ze4 ?_|exact ze5|fail)
   all_goals exact zp (by first|rfl|rw[Qau])
theorem Qm4{l:List Job}{k:Nat}(h:l.length<=1000000000)(hk:k<=10000000000000000):MCalls Tryz.prog 159 [.row 1000000,zI k] [(1000000,.row 40 (jobE l) true)] (fun(_:Unit)=>True) (fun _=>[zI ((k+11*l.length:Nat):Int)]) (fun _=>[(1000000,.row 40 (jobE (JQ (gJ k) l.length)) true)]) (fun _=>[]):=by
 refine Jb tt func159 rfl rfl rfl ⟨.inl rfl,trivial⟩ (fun _ _=>⟨⟨⟨rfl,rfl,(JT (f:=jobD) (z:=11) (fun _=>rfl) (QG _ _)).symm⟩,trivial⟩,.inl rfl,trivial⟩) (fun w0 Z O=>?_)
 repeat'(first|(refine zhm fun hb=>?_;try exact zab)|refine zUtp ?_|refine zg2 ?_ ?_|intro _)
 refine Qa (fun(i:Nat)=>⟨96,[(0,.row 1000000),(1,zI ((k+11*i:Nat):Int)),(5,zI i)],[(1000000,.row 40 (jobE (mkL (gJ k) l i)) true)]⟩) (fun i=>i<=l.length) (fun i=>l.length-i) 0 (by omega) ?_ ?_
 ·exact zll
 ·intro i b
  have a:(jobE (mkL (gJ k) l i)).length=l.length:=by rw[jobE,Xar,JO (gJ k) l b]
  have c:=JO (gJ k) l b
  repeat'(first|(refine zhm fun hb=>?_;try exact zab)|refine zUt ?_|refine zg2 ?_ ?_|(apply YV;first|(refine Vv rfl rfl rfl rfl rfl a (by omega) rfl rfl rfl rfl ?_)|(refine WY rfl rfl rfl rfl rfl a (by omega) (QcG (by omega)) rfl rfl rfl rfl ?_))|refine zln fun _=>?_|refine zop ?_|fail)
  ·refine⟨i+1,by omega,by omega,?_⟩
   refine zag ?_;exact zp (Qay (f:=jobD) (by omega))
  ·obtain rfl:i=l.length:=by omega
   refine zm () [] (by exact trivial) ?_ ?_ ?_
   repeat'(first|exact ze3|refine ze2 ?_ ?_|refine ze4 ?_|exact ze5|fail)
   all_goals exact zp (by first|rfl|rw[Qau])
theorem QnE{l:List QbO}{k:Nat}(h:l.length<=1000000000)(hk:k<=10000000000000000):MCalls Tryz.prog 161 [.row 1000000,zI k] [(1000000,.row 123 (endE l) true)] (fun(_:Unit)=>True) (fun _=>[zI ((k+3*l.length:Nat):Int)]) (fun _=>[(1000000,.row 123 (endE (JQ (gE k) l.length)) true)]) (fun _=>[]):=by
 refine Jb tt func161 rfl rfl rfl ⟨.inl rfl,trivial⟩ (fun _ _=>⟨⟨⟨rfl,rfl,(JT (f:=(fun(e:QbO)=>([.n .i64 e.id,.n .i64 e.at',.n .i64 e.why]:List D))) (z:=3) (fun _=>rfl) (QG _ _)).symm⟩,trivial⟩,.inl rfl,trivial⟩) (fun w0 Z O=>?_)
 repeat'(first|(refine zhm fun hb=>?_;try exact zab)|refine zUtp ?_|refine zg2 ?_ ?_|intro _)
 refine Qa (fun(i:Nat)=>⟨34,[(0,.row 1000000),(1,zI ((k+3*i:Nat):Int)),(5,zI i)],[(1000000,.row 123 (endE (mkL (gE k) l i)) true)]⟩) (fun i=>i<=l.length) (fun i=>l.length-i) 0 (by omega) ?_ ?_
 ·exact zll
 ·intro i b
  have a:(endE (mkL (gE k) l i)).length=l.length:=by rw[endE,Xar,JO (gE k) l b]
  have c:=JO (gE k) l b
  repeat'(first|(refine zhm fun hb=>?_;try exact zab)|refine zUt ?_|refine zg2 ?_ ?_|(apply YV;first|(refine Vv rfl rfl rfl rfl rfl a (by omega) rfl rfl rfl rfl ?_)|(refine WY rfl rfl rfl rfl rfl a (by omega) (QcG (by omega)) rfl rfl rfl rfl ?_))|refine zln fun _=>?_|refine zop ?_|fail)
  ·refine⟨i+1,by omega,by omega,?_⟩
   refine zag ?_;exact zp (Qay (f:=(fun(e:QbO)=>([.n .i64 e.id,.n .i64 e.at',.n .i64 e.why]:List D))) (by omega))
  ·obtain rfl:i=l.length:=by omega
   refine zm () [] (by exact trivial) ?_ ?_ ?_
   repeat'(first|exact ze3|refine ze2 ?_ ?_|refine ze4 ?_|exact ze5|fail)
   all_goals exact zp (by first|rfl|rw[Qau])
theorem QkC{n k:Nat}(h:n<=1000000000)(hk:k<=10000000000000000):zAc 234 [zL (Qr (JQ (gN k) n)),zI k] [zI ((k+4*n:Nat):Int)] []:=by
  refine zAC func234 fun w0 Z=>?_
  have hl:=QG (gN k) n
  repeat'(first|(refine zhm fun hb=>?_;try exact zab)|refine zUtp ?_|refine zg2 ?_ ?_|intro _)
  refine Qa (fun(i:Nat)=>⟨52,[(0,zL (Qr (JQ (gN k) n))),(1,zI ((k+4*i:Nat):Int)),(5,zI i)],[]⟩) (fun i=>i<=n) (fun i=>n-i) 0 (by omega) ?_ ?_
  · exact zll
  · intro i hi
    repeat'(first|(refine zhm fun hb=>?_;try exact zab)|refine zUtp ?_|refine zg2 ?_ ?_|intro _)
    all_goals first
      | (exact absurd (by rw[ZF (by omega)];rfl) hb)
      | (refine⟨i+1,by omega,by omega,?_⟩
         refine⟨rfl,?_,?_,rfl⟩
         repeat'(first|exact ze3|refine ze2 ?_ ?_|refine ze4 ?_|exact ze5|fail)
         all_goals exact zp rfl)
      | (obtain rfl:i=n:=by omega
         refine zr [] ?_ ?_
         repeat'(first|exact ze3|refine ze2 ?_ ?_|refine ze4 ?_|exact ze5|fail)
         all_goals exact zp rfl)
theorem QnT{n k:Nat}(h:n<=1000000000)(hk:k<=10000000000000000):zAc 165 [zL (jobE (JQ (gJ k) n)),zI k] [zI ((k+11*n:Nat):Int)] []:=by
  refine zAC func165 fun w0 Z=>?_
  have hl:=QG (gJ k) n
  repeat'(first|(refine zhm fun hb=>?_;try exact zab)|refine zUtp ?_|refine zg2 ?_ ?_|intro _)
  refine Qa (fun(i:Nat)=>⟨118,[(0,zL (jobE (JQ (gJ k) n))),(1,zI ((k+11*i:Nat):Int)),(5,zI i)],[]⟩) (fun i=>i<=n) (fun i=>n-i) 0 (by omega) ?_ ?_
  · exact zll
  · intro i hi
    repeat'(first|(refine zhm fun hb=>?_;try exact zab)|refine zUtp ?_|refine zg2 ?_ ?_|intro _)
    all_goals first
      | (exact absurd (by rw[ZF (by omega)];rfl) hb)
      | (refine⟨i+1,by omega,by omega,?_⟩
         refine⟨rfl,?_,?_,rfl⟩
         repeat'(first|exact ze3|refine ze2 ?_ ?_|refine ze4 ?_|exact ze5|fail)
         all_goals exact zp rfl)
      | (obtain rfl:i=n:=by omega
         refine zr [] ?_ ?_
         repeat'(first|exact ze3|refine ze2 ?_ ?_|refine ze4 ?_|exact ze5|fail)
         all_goals exact zp rfl)
theorem Qoa{n k:Nat}(h:n<=1000000000)(hk:k<=10000000000000000):zAc 167 [zL (endE (JQ (gE k) n)),zI k] [zI ((k+3*n:Nat):Int)] []:=by
  refine zAC func167 fun w0 Z=>?_
  have hl:=QG (gE k) n
  repeat'(first|(refine zhm fun hb=>?_;try exact zab)|refine zUtp ?_|refine zg2 ?_ ?_|intro _)
  refine Qa (fun(i:Nat)=>⟨40,[(0,zL (endE (JQ (gE k) n))),(1,zI ((k+3*i:Nat):Int)),(5,zI i)],[]⟩) (fun i=>i<=n) (fun i=>n-i) 0 (by omega) ?_ ?_
  · exact zll
  · intro i hi
    repeat'(first|(refine zhm fun hb=>?_;try exact zab)|refine zUtp ?_|refine zg2 ?_ ?_|intro _)
    all_goals first
      | (exact absurd (by rw[ZF (by omega)];rfl) hb)
      | (refine⟨i+1,by omega,by omega,?_⟩
         refine⟨rfl,?_,?_,rfl⟩
         repeat'(first|exact ze3|refine ze2 ?_ ?_|refine ze4 ?_|exact ze5|fail)
         all_goals exact zp rfl)
      | (obtain rfl:i=n:=by omega
         refine zr [] ?_ ?_
         repeat'(first|exact ze3|refine ze2 ?_ ?_|refine ze4 ?_|exact ze5|fail)
         all_goals exact zp rfl)
theorem QcA{n k:Nat}(h:n<=1000000000)(hk:k<=10000000000000000):zAc 90 [zL (intE (JQ (gI k) n)),zI k] [zI ((k+1*n:Nat):Int)] []:=by
  refine zAC func90 fun w0 Z=>?_
  have hl:=QG (gI k) n
  repeat'(first|(refine zhm fun hb=>?_;try exact zab)|refine zUtp ?_|refine zg2 ?_ ?_|intro _)
  refine Qa (fun(i:Nat)=>⟨21,[(0,zL (intE (JQ (gI k) n))),(1,zI ((k+1*i:Nat):Int)),(5,zI i)],[]⟩) (fun i=>i<=n) (fun i=>n-i) 0 (by omega) ?_ ?_
  · exact zll
  · intro i hi
    repeat'(first|(refine zhm fun hb=>?_;try exact zab)|refine zUtp ?_|refine zg2 ?_ ?_|intro _)
    all_goals first
      | (exact absurd (by rw[ZF (by omega)];rfl) hb)
      | (refine⟨i+1,by omega,by omega,?_⟩
         refine⟨rfl,?_,?_,rfl⟩
         repeat'(first|exact ze3|refine ze2 ?_ ?_|refine ze4 ?_|exact ze5|fail)
         all_goals exact zp rfl)
      | (obtain rfl:i=n:=by omega
         refine zr [] ?_ ?_
         repeat'(first|exact ze3|refine ze2 ?_ ?_|refine ze4 ?_|exact ze5|fail)
         all_goals exact zp rfl)
def mR(k:Nat)(r:Run):Run:=⟨⟨(k:Int),((k+1:Nat):Int),((k+2:Nat):Int),⟨((k+3:Nat):Int),((k+4:Nat):Int),((k+5:Nat):Int)⟩,⟨((k+6:Nat):Int),((k+7:Nat):Int),((k+8:Nat):Int)⟩,((k+9:Nat):Int),((k+10:Nat):Int)⟩,((k+11:Nat):Int),JQ (gI (k+12)) r.nodes.length⟩
section
variable {α:Type} (m:Nat->α->α) (w:α->Nat)
def mSq:Nat->List α->List α
 | _,[]=>[]
 | k,r::l=>m k r::mSq (k+w r) l
def kSq:Nat->List α->Nat
 | k,[]=>k
 | k,r::l=>kSq (k+w r) l
theorem Vw:∀(k:Nat) (l:List α),(mSq m w k l).length=l.length
 | _,[]=>rfl
 | k,r::l=>by rw[mSq,Xap,Vw,Xap]
def mxS(k:Nat)(l:List α)(j:Nat):List α:=mSq m w k (l.take j)++l.drop j
def kAtS(k:Nat)(l:List α)(j:Nat):Nat:=kSq w k (l.take j)
theorem Qu4(k:Nat)(l:List α):mxS m w k l l.length=mSq m w k l:=by simp[mxS]
theorem Qtl(k:Nat)(l:List α):kAtS w k l l.length=kSq w k l:=by simp[kAtS]
theorem QmX{k:Nat}{l:List α}{j:Nat}(h:j<=l.length):(mxS m w k l j).length=l.length:=by simp[mxS,Vw];omega
theorem QuZ[Inhabited α]{k:Nat}{l:List α}{j:Nat}(h:j<l.length):nth (mxS m w k l j) j=nth l j:=by
 have:(mxS m w k l j)[j]?=l[j]?:=by
  unfold mxS
  rw[List.getElem?_append_right (by rw[Vw,Xah];omega),List.getElem?_drop,Vw,Xah]
  congr 1;omega
 simp only[nth,List.getD_eq_getElem?_getD,this]
theorem Qq9[Inhabited α]:∀(k:Nat) (l:List α) (j:Nat),j<l.length->mSq m w k (l.take (j+1))=mSq m w k (l.take j)++[m (kAtS w k l j) (nth l j)]/\kAtS w k l (j+1)=kAtS w k l j+w (nth l j)
 | _,[],j,h=>absurd h (Xaq _)
 | k,r::l,0,_=>by simp[mSq,kAtS,kSq,nth]
 | k,r::l,j+1,h=>by
  obtain⟨h1,h2⟩:=Qq9 (k+w r) l j (by simpa using h)
  have e:nth (r::l) (j+1)=nth l j:=by simp[nth]
  constructor
  ·rw[XcB,mSq,h1,XcB,mSq,e];rfl
  ·rw[e];exact h2
theorem Qv0[Inhabited α]{f:α->List D}{k:Nat}{l:List α}{j:Nat}(h:j<l.length):((mxS m w k l j).map f).set j (f (m (kAtS w k l j) (nth l j)))=(mxS m w k l (j+1)).map f:=by
 have a:(mSq m w k (l.take j)).length=j:=by rw[Vw,Xah];omega
 have b:l.drop j=nth l j::l.drop (j+1):=by
  rw[Xa8 h]
  simp[nth,h]
 unfold mxS
 rw[(Qq9 m w k l j h).1,b,XaG,Xas,XbA _ _ (by rw[Xar,a];exact Xaj _),Xar,a,Xb4,Xbx]
 simp
theorem Qpq[Inhabited α]:∀(k:Nat) (l:List α) (j:Nat),j<l.length->nth (mSq m w k l) j=m (kAtS w k l j) (nth l j)
 | _,[],j,h=>absurd h (Xaq _)
 | k,r::l,0,_=>by simp[mSq,kAtS,kSq,nth]
 | k,r::l,j+1,h=>by
  have:=Qpq (k+w r) l j (by simpa using h)
  have e:nth (r::l) (j+1)=nth l j:=by simp[nth]
  have e2:nth (mSq m w k (r::l)) (j+1)=nth (mSq m w (k+w r) l) j:=by simp[nth,mSq]
  rw[e,e2]
  exact this
theorem Quk{c:Nat}:∀{l:List α} {k:Nat},(∀r∈l,w r<=c)->k<=kSq w k l/\kSq w k l<=k+c*l.length
 | [],k,_=>⟨Xaj _,Xaj _⟩
 | r::l,k,h=>by
  obtain⟨h1,h2⟩:=Quk (c:=c) (l:=l) (k:=k+w r) fun q hq=>h q (Xad _ hq)
  have:=h r Xaa
  rw[Xap,Nat.mul_succ]
  exact⟨Xam (Nat.le_add_right _ _) h1,by simp only[kSq];omega⟩
theorem Qwl[Inhabited α]{c:Nat}{l:List α}{k j:Nat}(h:∀j,j<l.length->w (nth l j)<=c)(hl:l.length<=1048576):k<=kAtS w k l j/\kAtS w k l j<=k+c*1048576:=by
 have b:∀r∈l.take j,w r<=c:=fun r hr=>by
  obtain⟨i,a,rfl⟩:=Xbh (XaE hr)
  have:=h i a
  simpa [nth,a] using this
 obtain⟨d,e⟩:=Quk w (k:=k) b
 have:(l.take j).length<=1048576:=by rw[Xah];omega
 exact⟨d,Xam e (Nat.add_le_add_left (Nat.mul_le_mul_left c this) k)⟩
end
theorem QxR{α:Type}[Inhabited α]{l:List α}{j:Nat}(h:j<l.length):l[j]?=some (nth l j):=by simp[nth,h]
@[reducible] def wR (r:Run):Nat:=12+r.nodes.length
@[reducible] def mRs (k:Nat) (l:List Run):List Run:=mSq mR wR k l
@[reducible] def kR (k:Nat) (l:List Run):Nat:=kSq wR k l
@[reducible] def mxR (k:Nat) (l:List Run) (j:Nat):List Run:=mxS mR wR k l j
@[reducible] def kAt (k:Nat) (l:List Run) (j:Nat):Nat:=kAtS wR k l j
theorem Ze(k:Nat)(l:List Run):(mRs k l).length=l.length:=Vw mR wR k l
theorem Qwh(k:Nat)(l:List Run):mxR k l l.length=mRs k l:=Qu4 mR wR k l
theorem Qkk(k:Nat)(l:List Run):kAt k l l.length=kR k l:=Qtl wR k l
theorem Qn3{k:Nat}{l:List Run}{j:Nat}(h:j<=l.length):(mxR k l j).length=l.length:=QmX mR wR h
theorem QvL{k:Nat}{l:List Run}{j:Nat}(h:j<l.length):nth (mxR k l j) j=nth l j:=QuZ mR wR h
theorem Qub(k:Nat)(l:List Run)(j:Nat)(h:j<l.length):mRs k (l.take (j+1))=mRs k (l.take j)++[mR (kAt k l j) (nth l j)]/\kAt k l (j+1)=kAt k l j+12+(nth l j).nodes.length:=by
 obtain⟨a,b⟩:=Qq9 mR wR k l j h
 exact⟨a,by rw[show kAt k l (j+1)=kAt k l j+(12+(nth l j).nodes.length) from b];omega⟩
theorem QuR{k:Nat}{l:List Run}{j:Nat}(h:j<l.length):(runE (mxR k l j)).set j (runD (mR (kAt k l j) (nth l j)))=runE (mxR k l (j+1)):=Qv0 mR wR (f:=runD) h
theorem Qu3(k:Nat)(l:List Run)(j:Nat)(h:j<l.length):nth (mRs k l) j=mR (kAt k l j) (nth l j):=Qpq mR wR k l j h
theorem Qqf{l:List Run}{k j:Nat}(h:∀j,j<l.length->(nth l j).nodes.length<=1048576)(hl:l.length<=1048576):k<=kAt k l j/\kAt k l j<=k+1099524276288:=by
 have:=Qwl wR (c:=1048588) (k:=k) (j:=j) (fun i hi=>by have:=h i hi;simp only[wR];omega) hl
 have e:kAtS wR k l j=kAt k l j:=rfl
 rw[e]at this
 omega
theorem Zy{e':TypeId}(he:(Tryz.prog.info? e').map (·.size)=some 1){l:List Int}{k:Nat}(h:l.length<=1000000000)(hk:k<=10000000000000000):MCalls Tryz.prog 86 [.row 1000000,zI k] [(1000000,.row e' (intE l) true)] (fun(_:Unit)=>True) (fun _=>[zI ((k+1*l.length:Nat):Int)]) (fun _=>[(1000000,.row e' (intE (JQ (gI k) l.length)) true)]) (fun _=>[]):=by
 refine Jb tt func86 rfl rfl rfl ⟨.inl rfl,trivial⟩ (fun _ _=>⟨⟨⟨rfl,rfl,(JT (f:=(fun(x:Int)=>([.n .i64 x]:List D))) (z:=1) (fun _=>rfl) (QG _ _)).symm⟩,trivial⟩,.inl rfl,trivial⟩) (fun w0 Z O=>?_)
 repeat'(first|(refine zhm fun hb=>?_;try exact zab)|refine zUtp ?_|refine zg2 ?_ ?_|intro _)
 refine Qa (fun(i:Nat)=>⟨19,[(0,.row 1000000),(1,zI ((k+1*i:Nat):Int)),(5,zI i)],[(1000000,.row e' (intE (mkL (gI k) l i)) true)]⟩) (fun i=>i<=l.length) (fun i=>l.length-i) 0 (by omega) ?_ ?_
 ·exact zll
 ·intro i b
  have a:(intE (mkL (gI k) l i)).length=l.length:=by rw[intE,Xar,JO (gI k) l b]
  have c:=JO (gI k) l b
  repeat'(first|(refine zhm fun hb=>?_;try exact zab)|refine zUt ?_|refine zg2 ?_ ?_|(apply YV;first|(refine QOk.ok (QsH (e:=3) rfl rfl rfl rfl rfl he rfl rfl a (by omega) rfl ?_))|(refine WY rfl rfl rfl rfl rfl a (by omega) (QcG (by omega)) rfl rfl rfl rfl ?_))|refine zln fun _=>?_|refine zop ?_|fail)
  ·refine⟨i+1,by omega,by omega,?_⟩
   refine zag ?_;exact zp (Qay (f:=(fun(x:Int)=>([.n .i64 x]:List D))) (by omega))
  ·obtain rfl:i=l.length:=by omega
   refine zm () [] (by exact trivial) ?_ ?_ ?_
   repeat'(first|exact ze3|refine ze2 ?_ ?_|refine ze4 ?_|exact ze5|fail)
   all_goals exact zp (by first|rfl|rw[Qau])
theorem QbU{k:Nat}:zAc 86 [zL [],zI k] [zI k] []:=by
 refine zAC func86 fun w0 Z=>?_
 repeat'(first|(refine zhm fun hb=>?_;try exact zab)|refine zUtp ?_|refine zg2 ?_ ?_|intro _)
 refine Qa (fun(_:Unit)=>⟨19,[(0,zL []),(1,zI k),(5,zI 0)],[]⟩) (fun _=>True) (fun _=>0) () trivial ?_ ?_
 ·exact zll
 ·intro i hi
  repeat'(first|(refine zhm fun hb=>?_;try exact zab)|refine zUtp ?_|refine zg2 ?_ ?_|intro _)
  exact zrr
theorem QmM{l:List Int}:(∀q∈intE l,q.length=1):=fun q hq=>by
 obtain⟨x,_,rfl⟩:=Xaf.1 hq
 rfl
theorem QnD{l:List Run}{k:Nat}(h:l.length<=1048576)(hr:∀j,j<l.length->(nth l j).nodes.length<=1048576)(hk:k<=1000000000000000):MCalls Tryz.prog 160 [.row 1000000,zI k] [(1000000,.row 66 (runE l) true)] (fun(_:Unit)=>True) (fun _=>[zI ((kR k l:Nat):Int)]) (fun _=>[(1000000,.row 66 (runE (mRs k l)) true)]) (fun _=>[]):=by
 refine Jb tt func160 rfl rfl rfl ⟨.inl rfl,trivial⟩ (fun _ _=>⟨⟨⟨rfl,rfl,(JT (f:=runD) (z:=13) (fun _=>rfl) (Ze _ _)).symm⟩,trivial⟩,.inl rfl,trivial⟩) (fun w0 Z O=>?_)
 repeat'(first|(refine zhm fun hb=>?_;try exact zab)|refine zUtp ?_|refine zg2 ?_ ?_|intro _)
 refine Qa (fun(i:Nat)=>⟨121,[(0,.row 1000000),(1,zI ((kAt k l i:Nat):Int)),(5,zI i)],[(1000000,.row 66 (runE (mxR k l i)) true)]⟩) (fun i=>i<=l.length) (fun i=>l.length-i) 0 (by omega) ?_ ?_
 ·exact zll
 ·intro i g
  have d:=Qn3 (k:=k) g
  have c:(runE (mxR k l i)).length=l.length:=by rw[Qe,d]
  by_cases a:i<l.length
  ·have b:=Qj8 (l:=mxR k l i) (j:=i) (by omega)
   rw[QvL a]at b
   have m:=Qqf (k:=k) (j:=i) hr h
   have n:=hr i a
   have e:=(Qub k l i a).2
   repeat'(first|(refine zhm fun hb=>?_;try exact zab)|(refine QhU (z1:=1) (es1:=intE (nth l i).nodes) (es2:=intE (JQ (gI (kAt k l i+12)) (nth l i).nodes.length)) (kv:=((kAt k l i+12:Nat):Int)) (kr:=((kAt k l i+12+1*(nth l i).nodes.length:Nat):Int)) rfl rfl rfl rfl rfl rfl (List.getElem?_set_self (by omega)) rfl rfl rfl rfl rfl rfl (by intro k h;injection h with h;subst h;rfl) rfl rfl rfl rfl rfl rfl QmM (QV fun _=>rfl) (QV fun _=>rfl) (by rw[Xj,Xj,QG]) (fun _ e' he=>Zy he (by omega) (by omega)) (fun he=>by rw[show(nth l i).nodes.length=0 from by rw[<-Xj,he];rfl];exact QbU) ?_)|refine zUt ?_|refine zg2 ?_ ?_|(apply YV;first|(refine Vv rfl rfl rfl rfl rfl c (by omega) rfl rfl rfl rfl ?_)|(refine WY rfl rfl rfl rfl rfl c (by omega) b rfl rfl rfl rfl ?_))|refine zln fun _=>?_|refine zop ?_|fail)
   refine⟨i+1,by omega,by omega,?_⟩
   refine⟨rfl,?_,?_,rfl⟩
   repeat'(first|exact ze3|refine ze2 ?_ ?_|refine ze4 ?_|exact ze5|fail)
   all_goals exact zp (by first|rfl|exact(List.set_set ..).trans (QuR a)|(rw[e];congr 1;omega))
  ·obtain rfl:i=l.length:=by omega
   repeat'(first|(refine zhm fun hb=>?_;try exact zab)|refine zUtp ?_|refine zg2 ?_ ?_|intro _)
   refine zm () [] (by exact trivial) ?_ ?_ ?_
   repeat'(first|exact ze3|refine ze2 ?_ ?_|refine ze4 ?_|exact ze5|fail)
   all_goals exact zp (by first|rfl|rw[Qwh]|rw[Qkk])
def gO(k j:Nat):Bool:=decide ((((k+1*j) % 3:Nat):Int)=0)
theorem QkP{l:List Bool}{k:Nat}(h:l.length<=1000000000)(hk:k<=10000000000000000):MCalls Tryz.prog 158 [.row 1000000,zI k] [(1000000,.row 4 (Qk l) true)] (fun(_:Unit)=>True) (fun _=>[zI ((k+1*l.length:Nat):Int)]) (fun _=>[(1000000,.row 4 (Qk (JQ (gO k) l.length)) true)]) (fun _=>[]):=by
 refine Jb tt func158 rfl rfl rfl ⟨.inl rfl,trivial⟩ (fun _ _=>⟨⟨⟨rfl,rfl,(JT (f:=(fun(b:Bool)=>([.b b]:List D))) (z:=1) (fun _=>rfl) (QG _ _)).symm⟩,trivial⟩,.inl rfl,trivial⟩) (fun w0 Z O=>?_)
 repeat'(first|(refine zhm fun hb=>?_;try exact zab)|refine zUtp ?_|refine zg2 ?_ ?_|intro _)
 refine Qa (fun(i:Nat)=>⟨21,[(0,.row 1000000),(1,zI ((k+1*i:Nat):Int)),(5,zI i)],[(1000000,.row 4 (Qk (mkL (gO k) l i)) true)]⟩) (fun i=>i<=l.length) (fun i=>l.length-i) 0 (by omega) ?_ ?_
 ·exact zll
 ·intro i c
  have a:(Qk (mkL (gO k) l i)).length=l.length:=by rw[Qk,Xar,JO (gO k) l c]
  have d:=JO (gO k) l c
  repeat'(first|(refine zhm fun hb=>?_;try exact zab)|refine zUt ?_|refine zg2 ?_ ?_|(apply YV;first|(refine Vv rfl rfl rfl rfl rfl a (by omega) rfl rfl rfl rfl ?_)|(refine WY rfl rfl rfl rfl rfl a (by omega) (QcG (by omega)) rfl rfl rfl rfl ?_))|refine zln fun _=>?_|refine zop ?_|fail)
  ·refine⟨i+1,by omega,by omega,?_⟩
   refine zag ?_;exact zp (Qay (f:=(fun(b:Bool)=>([.b b]:List D))) (by omega))
  ·obtain rfl:i=l.length:=by omega
   refine zm () [] (by exact trivial) ?_ ?_ ?_
   repeat'(first|exact ze3|refine ze2 ?_ ?_|refine ze4 ?_|exact ze5|fail)
   all_goals exact zp (by first|rfl|rw[Qau])
theorem QjS{n k:Nat}(h:n<=1000000000)(hk:k<=10000000000000000):zAc 164 [zL (Qk (JQ (gO k) n)),zI k] [zI ((k+1*n:Nat):Int)] []:=by
  refine zAC func164 fun w0 Z=>?_
  have hl:=QG (gO k) n
  repeat'(first|(refine zhm fun hb=>?_;try exact zab)|refine zUtp ?_|refine zg2 ?_ ?_|intro _)
  refine Qa (fun(i:Nat)=>⟨23,[(0,zL (Qk (JQ (gO k) n))),(1,zI ((k+1*i:Nat):Int)),(5,zI i)],[]⟩) (fun i=>i<=n) (fun i=>n-i) 0 (by omega) ?_ ?_
  · exact zll
  · intro i hi
    repeat'(first|(refine zhm fun hb=>?_;try exact zab)|refine zUtp ?_|refine zg2 ?_ ?_|intro _)
    all_goals first
      | (exact absurd (by rw[ZF (by omega)];rfl) hb)
      | (refine⟨i+1,by omega,by omega,?_⟩
         refine⟨rfl,?_,?_,rfl⟩
         repeat'(first|exact ze3|refine ze2 ?_ ?_|refine ze4 ?_|exact ze5|fail)
         all_goals exact zp rfl)
      | (obtain rfl:i=n:=by omega
         refine zr [] ?_ ?_
         repeat'(first|exact ze3|refine ze2 ?_ ?_|refine ze4 ?_|exact ze5|fail)
         all_goals exact zp rfl)
theorem Qhn{l:List Int}(h:l.length<=1048576):zAc 76 [zL (intE l)] [.row 0] [(0,.row 3 (intE l) true)]:=by
 refine zAC func76 fun w0 Z=>?_
 have hl:=Qc l
 repeat'(first|(refine zhm fun hb=>?_;try exact zab)|refine zUtp ?_|refine zg2 ?_ ?_|intro _)
 refine Qa (fun(i:Nat)=>⟨22,[(0,zL (intE l)),(3,.row 7),(4,zI i)],[(7,.row 3 (intE (cpyL l 0 i)) true)]⟩) (fun i=>i<=l.length) (fun i=>l.length-i) 0 (by exact Xae _) ?_ ?_
 ·refine⟨rfl,?_,?_,rfl⟩
  repeat'(first|exact ze3|refine ze2 ?_ ?_|refine ze4 ?_|exact ze5|fail)
  all_goals exact zp (by first|rfl|(rw[JV];exact(List.map_replicate ..).symm)|(rw[JV];simp[intE]))
 ·intro i c
  have d:(intE (cpyL l 0 i)).length=l.length:=by rw[Qc];exact Qt _ _ c
  have b:=Qt l 0 c
  by_cases a:i<l.length
  ·repeat'(first|(refine zhm fun hb=>?_;try exact zab)|refine zUtp ?_|refine zg2 ?_ ?_|intro _)
   refine⟨i+1,by omega,by omega,?_⟩
   refine zag ?_;exact zp (Yf (f:=(fun x=>([.n .i64 x]:List D))) a)
  ·obtain rfl:i=l.length:=by omega
   repeat'(first|(refine zhm fun hb=>?_;try exact zab)|refine zUtp ?_|refine zg2 ?_ ?_|intro _)
   refine zr [7] ?_ ?_
   repeat'(first|exact ze3|refine ze2 ?_ ?_|refine ze4 ?_|exact ze5|fail)
   all_goals exact zp (by first|rfl|rw[Ye])
theorem QqX{l:List Bool}(h:l.length<=1048576):zAc 142 [zL (Qk l)] [.row 0] [(0,.row 4 (Qk l) true)]:=by
 refine zAC func142 fun w0 Z=>?_
 have hl:=Qq l
 repeat'(first|(refine zhm fun hb=>?_;try exact zab)|refine zUtp ?_|refine zg2 ?_ ?_|intro _)
 refine Qa (fun(i:Nat)=>⟨22,[(0,zL (Qk l)),(3,.row 7),(4,zI i)],[(7,.row 4 (Qk (cpyL l false i)) true)]⟩) (fun i=>i<=l.length) (fun i=>l.length-i) 0 (by exact Xae _) ?_ ?_
 ·refine⟨rfl,?_,?_,rfl⟩
  repeat'(first|exact ze3|refine ze2 ?_ ?_|refine ze4 ?_|exact ze5|fail)
  all_goals exact zp (by first|rfl|(rw[JV];exact(List.map_replicate ..).symm)|(rw[JV];simp[Qk]))
 ·intro i d
  have e:(Qk (cpyL l false i)).length=l.length:=by rw[Qq];exact Qt _ _ d
  have c:=Qt l false d
  by_cases a:i<l.length
  ·repeat'(first|(refine zhm fun hb=>?_;try exact zab)|refine zUtp ?_|refine zg2 ?_ ?_|intro _)
   refine⟨i+1,by omega,by omega,?_⟩
   refine zag ?_;exact zp (Yf (f:=(fun b=>([.b b]:List D))) a)
  ·obtain rfl:i=l.length:=by omega
   repeat'(first|(refine zhm fun hb=>?_;try exact zab)|refine zUtp ?_|refine zg2 ?_ ?_|intro _)
   refine zr [7] ?_ ?_
   repeat'(first|exact ze3|refine ze2 ?_ ?_|refine ze4 ?_|exact ze5|fail)
   all_goals exact zp (by first|rfl|rw[Ye])
theorem Qqx{l:List Qar}(h:l.length<=1048576):zAc 225 [zL (Qr l)] [.row 0] [(0,.row 62 (Qr l) true)]:=by
 refine zAC func225 fun w0 Z=>?_
 have hl:=Qw l
 repeat'(first|(refine zhm fun hb=>?_;try exact zab)|refine zUtp ?_|refine zg2 ?_ ?_|intro _)
 refine Qa (fun(i:Nat)=>⟨23,[(0,zL (Qr l)),(3,.row 7),(4,zI i)],[(7,.row 62 (Qr (cpyL l ⟨0,⟨0,0,0⟩⟩ i)) true)]⟩) (fun i=>i<=l.length) (fun i=>l.length-i) 0 (by exact Xae _) ?_ ?_
 ·refine⟨rfl,?_,?_,rfl⟩
  repeat'(first|exact ze3|refine ze2 ?_ ?_|refine ze4 ?_|exact ze5|fail)
  all_goals exact zp (by first|rfl|(rw[JV];exact(List.map_replicate ..).symm)|(rw[JV];simp[Qr]))
 ·intro i g
  have j:(Qr (cpyL l ⟨0,⟨0,0,0⟩⟩ i)).length=l.length:=by rw[Qw];exact Qt _ _ g
  have e:=Qt l ⟨0,⟨0,0,0⟩⟩ g
  by_cases d:i<l.length
  ·repeat'(first|(refine zhm fun hb=>?_;try exact zab)|refine zUtp ?_|refine zg2 ?_ ?_|refine kc (Qle (x:=nth l i)) rfl rfl ?_|intro _)
   refine⟨i+1,by omega,by omega,?_⟩
   refine⟨rfl,?_,?_,rfl⟩
   repeat'(first|exact ze3|refine ze2 ?_ ?_|refine ze4 ?_|exact ze5|fail)
   all_goals exact zp (by first|rfl|exact Yf (f:=(fun n=>([.n .i64 n.leaf,.n .i64 n.cap.a,.n .i64 n.cap.b,.n .i64 n.cap.c]:List D))) d)
  ·obtain rfl:i=l.length:=by omega
   repeat'(first|(refine zhm fun hb=>?_;try exact zab)|refine zUtp ?_|refine zg2 ?_ ?_|intro _)
   refine zr [7] ?_ ?_
   repeat'(first|exact ze3|refine ze2 ?_ ?_|refine ze4 ?_|exact ze5|fail)
   all_goals exact zp (by first|rfl|rw[Ye])
theorem QsS{l:List Job}(h:l.length<=1048576):zAc 144 [zL (jobE l)] [.row 0] [(0,.row 40 (jobE l) true)]:=by
 refine zAC func144 fun w0 Z=>?_
 have hl:=Qj l
 repeat'(first|(refine zhm fun hb=>?_;try exact zab)|refine zUtp ?_|refine zg2 ?_ ?_|intro _)
 refine Qa (fun(i:Nat)=>⟨23,[(0,zL (jobE l)),(3,.row 7),(4,zI i)],[(7,.row 40 (jobE (cpyL l ⟨0,0,0,⟨0,0,0⟩,⟨0,0,0⟩,0,0⟩ i)) true)]⟩) (fun i=>i<=l.length) (fun i=>l.length-i) 0 (by exact Xae _) ?_ ?_
 ·refine⟨rfl,?_,?_,rfl⟩
  repeat'(first|exact ze3|refine ze2 ?_ ?_|refine ze4 ?_|exact ze5|fail)
  all_goals exact zp (by first|rfl|(rw[JV];exact(List.map_replicate ..).symm)|(rw[JV];simp[jobE]))
 ·intro i c
  have d:(jobE (cpyL l ⟨0,0,0,⟨0,0,0⟩,⟨0,0,0⟩,0,0⟩ i)).length=l.length:=by rw[Qj];exact Qt _ _ c
  have b:=Qt l ⟨0,0,0,⟨0,0,0⟩,⟨0,0,0⟩,0,0⟩ c
  by_cases a:i<l.length
  ·repeat'(first|(refine zhm fun hb=>?_;try exact zab)|refine zUtp ?_|refine zg2 ?_ ?_|refine kc (Qe5 (x:=nth l i)) rfl rfl ?_|intro _)
   refine⟨i+1,by omega,by omega,?_⟩
   refine zag ?_;exact zp (Yf (f:=jobD) a)
  ·obtain rfl:i=l.length:=by omega
   repeat'(first|(refine zhm fun hb=>?_;try exact zab)|refine zUtp ?_|refine zg2 ?_ ?_|intro _)
   refine zr [7] ?_ ?_
   repeat'(first|exact ze3|refine ze2 ?_ ?_|refine ze4 ?_|exact ze5|fail)
   all_goals exact zp (by first|rfl|rw[Ye])
theorem QsO{l:List QbO}(h:l.length<=1048576):zAc 146 [zL (endE l)] [.row 0] [(0,.row 123 (endE l) true)]:=by
 refine zAC func146 fun w0 Z=>?_
 have hl:=QJ l
 repeat'(first|(refine zhm fun hb=>?_;try exact zab)|refine zUtp ?_|refine zg2 ?_ ?_|intro _)
 refine Qa (fun(i:Nat)=>⟨23,[(0,zL (endE l)),(3,.row 7),(4,zI i)],[(7,.row 123 (endE (cpyL l ⟨0,0,0⟩ i)) true)]⟩) (fun i=>i<=l.length) (fun i=>l.length-i) 0 (by exact Xae _) ?_ ?_
 ·refine⟨rfl,?_,?_,rfl⟩
  repeat'(first|exact ze3|refine ze2 ?_ ?_|refine ze4 ?_|exact ze5|fail)
  all_goals exact zp (by first|rfl|(rw[JV];exact(List.map_replicate ..).symm)|(rw[JV];simp[endE]))
 ·intro i c
  have d:(endE (cpyL l ⟨0,0,0⟩ i)).length=l.length:=by rw[QJ];exact Qt _ _ c
  have b:=Qt l ⟨0,0,0⟩ c
  by_cases a:i<l.length
  ·repeat'(first|(refine zhm fun hb=>?_;try exact zab)|refine zUtp ?_|refine zg2 ?_ ?_|refine kc (Qrw (x:=nth l i)) rfl rfl ?_|intro _)
   refine⟨i+1,by omega,by omega,?_⟩
   refine⟨rfl,?_,?_,rfl⟩
   repeat'(first|exact ze3|refine ze2 ?_ ?_|refine ze4 ?_|exact ze5|fail)
   all_goals exact zp (by first|rfl|exact Yf (f:=(fun e=>([.n .i64 e.id,.n .i64 e.at',.n .i64 e.why]:List D))) a)
  ·obtain rfl:i=l.length:=by omega
   repeat'(first|(refine zhm fun hb=>?_;try exact zab)|refine zUtp ?_|refine zg2 ?_ ?_|intro _)
   refine zr [7] ?_ ?_
   repeat'(first|exact ze3|refine ze2 ?_ ?_|refine ze4 ?_|exact ze5|fail)
   all_goals exact zp (by first|rfl|rw[Ye])
theorem QtA{α:Type}[Inhabited α]{l:List α}{z:α}{i:Nat}(h:i<l.length):nth (cpyL l z i) i=z:=by
 have:(cpyL l z i)[i]?=some z:=by
  unfold cpyL
  rw[List.getElem?_append_right (by simp;omega)]
  simp[show min i l.length=i by omega,List.getElem?_replicate]
  omega
 simp[nth,this]
@[reducible] def runO (r:Run) (q:Nat):AV:=.agg [zI r.job.id,zI r.job.prio,zI r.job.nodes,zI r.job.need.a,zI r.job.need.b,zI r.job.need.c,zI r.job.lic.a,zI r.job.lic.b,zI r.job.lic.c,zI r.job.wall,zI r.job.level,zI r.at',.row q]
theorem Qvc{r:Run}(h:r.nodes.length<=1048576):zAc 227 [runA r] [runO r 0] [(0,.row 3 (intE r.nodes) true)]:=by
 refine zAC func227 fun w0 Z=>?_
 repeat'(first|(refine zhm fun hb=>?_;try exact zab)|refine zUto ?_|refine zg2 ?_ ?_|refine kc (Qe5 (x:=r.job)) rfl rfl ?_|refine kc (Qhn (l:=r.nodes) h) rfl rfl ?_|intro _)
 exact zr [13] zae zae
theorem Qsk{l:List Run}(h:l.length<=1048576)(hr:∀j,j<l.length->(nth l j).nodes.length<=1048576):zAc 145 [zL (runE l)] [.row 0] [(0,.row 66 (runE l) true)]:=by
 refine zAC func145 fun w0 Z=>?_
 have hl:=Qe l
 repeat'(first|(refine zhm fun hb=>?_;try exact zab)|refine zUt ?_|refine zg2 ?_ ?_|(apply YV;first|refine zom ?_|(refine QmK rfl rfl rfl rfl (by first|with_reducible rfl|exact nlit _|rfl) rfl (by first|with_reducible rfl|exact nlit _|rfl) (by omega) ⟨rfl,rfl,rfl⟩ rfl rfl rfl rfl rfl ?_))|refine zln fun _=>?_|refine zop ?_|fail)
 refine Qa (fun(i:Nat)=>⟨23,[(0,zL (runE l)),(3,.row 7),(4,zI i)],[(7,.row 66 (runE (cpyL l zRun i)) true)]⟩) (fun i=>i<=l.length) (fun i=>l.length-i) 0 (by exact Xae _) ?_ ?_
 ·refine⟨rfl,?_,?_,rfl⟩
  repeat'(first|exact ze3|refine ze2 ?_ ?_|refine ze4 ?_|exact ze5|fail)
  all_goals exact zp (by first|rfl|(rw[JV];exact(List.map_replicate ..).symm)|(rw[JV];simp[runE,zRun,intE]))
 ·intro k e
  have c:(runE (cpyL l zRun k)).length=l.length:=by rw[Qe];exact Qt _ _ e
  have d:=Qt l zRun e
  by_cases a:k<l.length
  ·have b:=Qj8 (l:=cpyL l zRun k) (j:=k) (by omega)
   rw[QtA a]at b
   repeat'(first|(refine zhm fun hb=>?_;try exact zab)|refine zUt ?_|refine zg2 ?_ ?_|(apply YV;first|(refine QqZ rfl rfl rfl rfl rfl rfl rfl rfl rfl rfl c (by omega) b rfl rfl rfl (QV fun _=>rfl) rfl rfl ?_))|refine zln fun _=>?_|refine zop ?_|refine kc (Qvc (r:=nth l k) (hr k a)) rfl rfl ?_|fail)
   refine⟨k+1,by omega,by omega,?_⟩
   refine zag ?_;exact zp (Yf (f:=runD) a)
  ·obtain rfl:k=l.length:=by omega
   repeat'(first|(refine zhm fun hb=>?_;try exact zab)|refine zUtp ?_|refine zg2 ?_ ?_|intro _)
   refine zr [7] ?_ ?_
   repeat'(first|exact ze3|refine ze2 ?_ ?_|refine ze4 ?_|exact ze5|fail)
   all_goals exact zp (by first|rfl|rw[Ye])
theorem Qtz{t:QX}(h1:t.parents.length<=1048576)(h2:t.nodes.length<=1048576):zAc 141 [YW t] [.agg [.row 0,.row 1]] [(0,.row 3 (intE t.parents) true),(1,.row 62 (Qr t.nodes) true)]:=by
 refine zAC func141 fun w0 Z=>?_
 repeat'(first|(refine zhm fun hb=>?_;try exact zab)|refine zUto ?_|refine zg2 ?_ ?_|refine kc (Qhn (l:=t.parents) h1) rfl rfl ?_|refine kc (Qqx (l:=t.nodes) h2) rfl rfl ?_|intro _)
 exact zr [6,10] zae zae
@[reducible] def Xo (s:Qb) (q0 q1 q2 q3 q4 q5:Nat):AV:=.agg [.row q0,.row q1,.row q2,zI s.lic.a,zI s.lic.b,zI s.lic.c,zI s.depth,zI s.now,.row q3,.row q4,.row q5]
@[reducible] def QcO (s:Qb):List (Nat×AO):=[(0,.row 3 (intE s.topo.parents) true),(1,.row 62 (Qr s.topo.nodes) true),(2,.row 4 (Qk s.up) true),(3,.row 40 (jobE s.queue) true),(4,.row 66 (runE s.runs) true),(5,.row 123 (endE s.ends) true)]
theorem QdL{s:Qb}(h:Qo 1048576 s):zAc 73 [Qz s] [Xo s 0 1 2 3 4 5] (QcO s):=by
 refine zAC func73 fun w0 Z=>?_
 repeat'(first|(refine zhm fun hb=>?_;try exact zab)|refine zUto ?_|refine zg2 ?_ ?_|refine kc (Qtz (t:=s.topo) h.par h.nod) rfl rfl ?_|refine kc (QqX (l:=s.up) h.up) rfl rfl ?_|refine kc (QbR (x:=s.lic)) rfl rfl ?_|refine kc (QsS (l:=s.queue) h.que) rfl rfl ?_|refine kc (Qsk (l:=s.runs) h.run h.rno) rfl rfl ?_|refine kc (QsO (l:=s.ends) h.end') rfl rfl ?_|intro _)
 exact zr [6,1006,10,24,28,32] zae zae
theorem Qm8{l:List Run}{k:Nat}(h:l.length<=1048576)(hr:∀j,j<l.length->(nth l j).nodes.length<=1048576)(hk:k<=1000000000000000):zAc 166 [zL (runE (mRs k l)),zI k] [zI ((kR k l:Nat):Int)] []:=by
  refine zAC func166 fun w0 Z=>?_
  have f:(runE (mRs k l)).length=l.length:=by rw[Qe,Ze]
  have g:=Ze k l
  repeat'(first|(refine zhm fun hb=>?_;try exact zab)|refine zUtp ?_|refine zg2 ?_ ?_|intro _)
  refine Qa (fun(i:Nat)=>⟨147,[(0,zL (runE (mRs k l))),(1,zI ((kAt k l i:Nat):Int)),(5,zI i)],[]⟩) (fun i=>i<=l.length) (fun i=>l.length-i) 0 (by omega) ?_ ?_
  · exact zll
  · intro i hi
    by_cases b:i<l.length
    · have e:=Qqf (k:=k) (j:=i) hr h
      have m:=hr i b
      have d:=(Qub k l i b).2
      have c:(runE (mRs k l))[i]?=some (runD (mR (kAt k l i) (nth l i))):=by rw[<-Qu3 k l i b];exact Qj8 (by rw[Ze];exact b)
      repeat'(first|(refine zhm fun hb=>?_;try exact zab)|refine zUt ?_|refine zg2 ?_ ?_|(apply YV;first|(refine QOk.ok (Qqk rfl rfl rfl rfl rfl (nlit _) f (by omega) c rfl rfl ?_)))|refine zln fun _=>?_|refine zop ?_|refine kc (QcA (n:=(nth l i).nodes.length) (k:=kAt k l i+12) (by omega) (by omega)) rfl rfl ?_|fail)
      all_goals first
        | (exact absurd rfl hb)
        | (refine⟨i+1,by omega,by omega,?_⟩
           refine⟨rfl,?_,?_,rfl⟩
           repeat'(first|exact ze3|refine ze2 ?_ ?_|refine ze4 ?_|exact ze5|fail)
           all_goals exact zp (by first|rfl|(rw[d];congr 1;omega)))
    · obtain rfl:i=l.length:=by omega
      repeat'(first|(refine zhm fun hb=>?_;try exact zab)|refine zUtp ?_|refine zg2 ?_ ?_|intro _)
      refine zr [] ?_ ?_
      repeat'(first|exact ze3|refine ze2 ?_ ?_|refine ze4 ?_|exact ze5|fail)
      all_goals exact zp (by first|rfl|rw[Qkk])
def mTp(k:Nat)(t:QX):QX:=⟨JQ (gI k) t.parents.length,JQ (gN (k+1*t.parents.length)) t.nodes.length⟩
def kTp(k:Nat)(t:QX):Nat:=k+1*t.parents.length+4*t.nodes.length
def kUp(k:Nat)(s:Qb):Nat:=kTp k s.topo+1*s.up.length
def kQu(k:Nat)(s:Qb):Nat:=kUp k s+11*s.queue.length
def kRu(k:Nat)(s:Qb):Nat:=kR (kQu k s) s.runs
def kSt(k:Nat)(s:Qb):Nat:=kRu k s+3*s.ends.length
def mSt(k:Nat)(s:Qb):Qb:=⟨mTp k s.topo,JQ (gO (kTp k s.topo)) s.up.length,s.lic,s.depth,s.now,JQ (gJ (kUp k s)) s.queue.length,mRs (kQu k s) s.runs,JQ (gE (kRu k s)) s.ends.length⟩
theorem Zt{s:Qb}{k:Nat}(h:Qo 1048576 s)(hk:k<=100000000000000):k<=kTp k s.topo/\kTp k s.topo<=kUp k s/\kUp k s<=kQu k s/\kQu k s<=kRu k s/\kRu k s<=kSt k s/\kQu k s<=1000000000000000/\kSt k s<=k+1200000000000:=by
 have h1:=h.par;have h2:=h.nod;have h3:=h.up;have h4:=h.que;have h5:=h.run;have h6:=h.end'
 have a:=Qqf (k:=kQu k s) (j:=s.runs.length) h.rno h.run
 rw[Qkk]at a
 unfold kSt kRu
 have e1:kTp k s.topo=k+1*s.topo.parents.length+4*s.topo.nodes.length:=rfl
 have e2:kUp k s=kTp k s.topo+1*s.up.length:=rfl
 have e3:kQu k s=kUp k s+11*s.queue.length:=rfl
 omega
theorem tsz:(Tryz.prog.info? 3).map (·.size)=some 1:=ti3.sized
theorem lnI{g:Nat->Int}{l:List Int}:(intE l).map List.length=(intE (JQ g l.length)).map List.length:=(JT (f:=(fun(x:Int)=>([.n .i64 x]:List D))) (z:=1) (fun _=>rfl) (QG _ _)).symm
theorem lnN{g:Nat->Qar}{l:List Qar}:(Qr l).map List.length=(Qr (JQ g l.length)).map List.length:=(JT (f:=(fun(n:Qar)=>([.n .i64 n.leaf,.n .i64 n.cap.a,.n .i64 n.cap.b,.n .i64 n.cap.c]:List D))) (z:=4) (fun _=>rfl) (QG _ _)).symm
theorem lnB{g:Nat->Bool}{l:List Bool}:(Qk l).map List.length=(Qk (JQ g l.length)).map List.length:=(JT (f:=(fun(b:Bool)=>([.b b]:List D))) (z:=1) (fun _=>rfl) (QG _ _)).symm
theorem lnJ{g:Nat->Job}{l:List Job}:(jobE l).map List.length=(jobE (JQ g l.length)).map List.length:=(JT (f:=jobD) (z:=11) (fun _=>rfl) (QG _ _)).symm
theorem lnR{k:Nat}{l:List Run}:(runE l).map List.length=(runE (mRs k l)).map List.length:=(JT (f:=runD) (z:=13) (fun _=>rfl) (Ze _ _)).symm
theorem lnE{g:Nat->QbO}{l:List QbO}:(endE l).map List.length=(endE (JQ g l.length)).map List.length:=(JT (f:=(fun(e:QbO)=>([.n .i64 e.id,.n .i64 e.at',.n .i64 e.why]:List D))) (z:=3) (fun _=>rfl) (QG _ _)).symm
theorem Qn5{t:QX}{k:Nat}(h1:t.parents.length<=1048576)(h2:t.nodes.length<=1048576)(hk:k<=1000000000000000):MCalls Tryz.prog 157 [.agg [.row 1000000,.row 1000001],zI k] [(1000000,.row 3 (intE t.parents) true),(1000001,.row 62 (Qr t.nodes) true)] (fun(_:Unit)=>True) (fun _=>[zI ((kTp k t:Nat):Int)]) (fun _=>[(1000000,.row 3 (intE (mTp k t).parents) true),(1000001,.row 62 (Qr (mTp k t).nodes) true)]) (fun _=>[]):=by
 refine Jb tt func157 rfl rfl rfl ⟨.inl rfl,.inl rfl,trivial⟩ (fun _ _=>⟨⟨⟨rfl,rfl,lnI⟩,⟨rfl,rfl,lnN⟩,trivial⟩,.inl rfl,.inl rfl,trivial⟩) (fun w0 Z O=>?_)
 repeat'(first|(refine zhm fun hb=>?_;try exact zab)|refine zUto ?_|refine zg2 ?_ ?_|(refine km [1000000] (Zy (l:=t.parents) (k:=k) tsz (by omega) (by omega)) rfl rfl (fun i hi=>?_);try dsimp only at hi)|(refine km [1000001] (Qko (l:=t.nodes) (k:=k+1*t.parents.length) (by omega) (by omega)) rfl rfl (fun i hi=>?_);try dsimp only at hi)|intro _)
 exact zm () [] (by exact trivial) zae zae zae
theorem VG{s:Qb}{k:Nat}(h:Qo 1048576 s)(hk:k<=100000000000000):MCalls Tryz.prog 83 [Xo s 1000000 1000001 1000002 1000003 1000004 1000005,zI k] [(1000000,.row 3 (intE s.topo.parents) true),(1000001,.row 62 (Qr s.topo.nodes) true),(1000002,.row 4 (Qk s.up) true),(1000003,.row 40 (jobE s.queue) true),(1000004,.row 66 (runE s.runs) true),(1000005,.row 123 (endE s.ends) true)]
  (fun(_:Unit)=>True) (fun _=>[zI ((kSt k s:Nat):Int)]) (fun _=>[(1000000,.row 3 (intE (mSt k s).topo.parents) true),(1000001,.row 62 (Qr (mSt k s).topo.nodes) true),(1000002,.row 4 (Qk (mSt k s).up) true),(1000003,.row 40 (jobE (mSt k s).queue) true),(1000004,.row 66 (runE (mSt k s).runs) true),(1000005,.row 123 (endE (mSt k s).ends) true)]) (fun _=>[]):=by
 refine Jb tt func83 rfl rfl rfl ⟨.inl rfl,.inl rfl,.inl rfl,.inl rfl,.inl rfl,.inl rfl,trivial⟩ (fun _ _=>⟨⟨⟨rfl,rfl,lnI⟩,⟨rfl,rfl,lnN⟩,⟨rfl,rfl,lnB⟩,⟨rfl,rfl,lnJ⟩,⟨rfl,rfl,lnR⟩,⟨rfl,rfl,lnE⟩,trivial⟩,.inl rfl,.inl rfl,.inl rfl,.inl rfl,.inl rfl,.inl rfl,trivial⟩) (fun w0 Z O=>?_)
 have hb:=Zt h hk
 have a:=h.par;have b:=h.nod;have h3:=h.up;have h4:=h.que;have c:=h.run;have h6:=h.end'
 repeat'(first|(refine zhm fun hb=>?_;try exact zab)|refine zUto ?_|refine zg2 ?_ ?_|(refine km [1000000,1000001] (Qn5 (t:=s.topo) (k:=k) a b (by omega)) rfl rfl (fun i hi=>?_);try dsimp only at hi)|(refine km [1000002] (QkP (l:=s.up) (k:=kTp k s.topo) (by omega) (by omega)) rfl rfl (fun i hi=>?_);try dsimp only at hi)|(refine km [1000003] (Qm4 (l:=s.queue) (k:=kUp k s) (by omega) (by omega)) rfl rfl (fun i hi=>?_);try dsimp only at hi)|(refine km [1000004] (QnD (l:=s.runs) (k:=kQu k s) c h.rno (by omega)) rfl rfl (fun i hi=>?_);try dsimp only at hi)|(refine km [1000005] (QnE (l:=s.ends) (k:=kRu k s) (by omega) (by omega)) rfl rfl (fun i hi=>?_);try dsimp only at hi)|intro _)
 exact zm () [] (by exact trivial) zae zae zae
theorem QnU{t:QX}{k:Nat}(h1:t.parents.length<=1048576)(h2:t.nodes.length<=1048576)(hk:k<=1000000000000000):zAc 163 [YW (mTp k t),zI k] [zI ((kTp k t:Nat):Int)] []:=by
 refine zAC func163 fun w0 Z=>?_
 repeat'(first|(refine zhm fun hb=>?_;try exact zab)|refine zUto ?_|refine zg2 ?_ ?_|refine kc (QcA (n:=t.parents.length) (k:=k) (by omega) (by omega)) rfl rfl ?_|refine kc (QkC (n:=t.nodes.length) (k:=k+1*t.parents.length) (by omega) (by omega)) rfl rfl ?_|intro _)
 exact zrr
theorem Qas{s:Qb}{k:Nat}(h:Qo 1048576 s)(hk:k<=100000000000000):zAc 87 [Qz (mSt k s),zI k] [zI ((kSt k s:Nat):Int)] []:=by
 refine zAC func87 fun w0 Z=>?_
 have hb:=Zt h hk
 have a:=h.par;have b:=h.nod;have h3:=h.up;have h4:=h.que;have c:=h.run;have h6:=h.end'
 repeat'(first|(refine zhm fun hb=>?_;try exact zab)|refine zUto ?_|refine zg2 ?_ ?_|refine kc (QnU (t:=s.topo) (k:=k) a b (by omega)) rfl rfl ?_|refine kc (QjS (n:=s.up.length) (k:=kTp k s.topo) (by omega) (by omega)) rfl rfl ?_|refine kc (QnT (n:=s.queue.length) (k:=kUp k s) (by omega) (by omega)) rfl rfl ?_|refine kc (Qm8 (l:=s.runs) (k:=kQu k s) c h.rno (by omega)) rfl rfl ?_|refine kc (Qoa (n:=s.ends.length) (k:=kRu k s) (by omega) (by omega)) rfl rfl ?_|intro _)
 exact zrr
end
end Go.Proofs.YtkdniahincpmaaaGreat
