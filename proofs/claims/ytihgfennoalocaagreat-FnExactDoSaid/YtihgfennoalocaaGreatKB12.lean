/-
  The law's marks in slices of plain elements: what is written, and that it is held.
-/
import Derived.Test.YtihgfennoalocaaGreatKB5
import Derived.Test.YtihgfennoalocaaGreatKGlA
import Derived.Test.YtihgfennoalocaaGreatKB7
set_option maxRecDepth 100000
set_option maxHeartbeats 16000000
namespace Go.Proofs.YtihgfennoalocaaGreat
open Go Go.RowKit Tryz
section
attribute [local irreducible] AWp QJ OpOk ACalls ChA QsOk MCalls EnC PY
def gI(k j:Nat):Int:=((k+1*j:Nat):Int)
def gN(k j:Nat):X6:=⟨((k+4*j:Nat):Int),⟨((k+4*j+1:Nat):Int),((k+4*j+1+1:Nat):Int),((k+4*j+1+1+1:Nat):Int)⟩⟩
def gJ(k j:Nat):Job:=⟨((k+11*j:Nat):Int),((k+11*j+1:Nat):Int),((k+11*j+2:Nat):Int),⟨((k+11*j+3:Nat):Int),((k+11*j+4:Nat):Int),((k+11*j+5:Nat):Int)⟩,⟨((k+11*j+6:Nat):Int),((k+11*j+7:Nat):Int),((k+11*j+8:Nat):Int)⟩,((k+11*j+9:Nat):Int),((k+11*j+10:Nat):Int)⟩
def gE(k j:Nat):Qb5:=⟨((k+3*j:Nat):Int),((k+3*j+1:Nat):Int),((k+3*j+1+1:Nat):Int)⟩
theorem Qip{l:List X6}{k:Nat}(h:l.length<=1000000000)(hk:k<=10000000000000000):MCalls Tryz.prog 150 [.row 1000000,zI k] [(1000000,.row 225 (Qz l) true)] (fun(_:Unit)=>True) (fun _=>[zI ((k+4*l.length:Nat):Int)]) (fun _=>[(1000000,.row 225 (Qz (JM (gN k) l.length)) true)]) (fun _=>[]):=by
 refine Ji tt func150 rfl rfl rfl ⟨.inl rfl,trivial⟩ (fun _ _=>⟨⟨⟨rfl,rfl,(JN (f:=(fun(n:X6)=>([.n .i64 n.leaf,.n .i64 n.cap.a,.n .i64 n.cap.b,.n .i64 n.cap.c]:List D))) (z:=4) (fun _=>rfl) (QF _ _)).symm⟩,trivial⟩,.inl rfl,trivial⟩) (fun w0 Z O=>?_)
 repeat'(first|(refine zhm fun hb=>?_;try exact zab)|refine zUtp ?_|refine zg2 ?_ ?_|intro _|fail)
 refine Qa (fun(i:Nat)=>⟨44,[(0,.row 1000000),(1,zI ((k+4*i:Nat):Int)),(5,zI i)],[(1000000,.row 225 (Qz (mkL (gN k) l i)) true)]⟩) (fun i=>i<=l.length) (fun i=>l.length-i) 0 (by omega) ?_ ?_
 ·exact zll
 ·intro i hi
  have hl2:(Qz (mkL (gN k) l i)).length=l.length:=by rw[Qz,Xah,JU (gN k) l hi]
  have hl3:=JU (gN k) l hi
  repeat'(first|(refine zhm fun hb=>?_;try exact zab)|refine zUt ?_|refine zg2 ?_ ?_|(apply YE;first|(refine VG rfl rfl rfl rfl rfl hl2 (by omega) rfl rfl rfl rfl ?_)|(refine WS rfl rfl rfl rfl rfl hl2 (by omega) (Z5 (by omega)) rfl rfl rfl rfl ?_))|refine zln fun _=>?_|refine zop ?_|fail)
  ·refine⟨i+1,by omega,by omega,?_⟩
   refine zag ?_;exact zp (Qta (f:=(fun(n:X6)=>([.n .i64 n.leaf,.n .i64 n.cap.a,.n .i64 n.cap.b,.n .i64 n.cap.c]:List D))) (by omega))
  ·obtain rfl:i=l.length:=by omega
   refine zm () [] (by exact trivial) ?_ ?_ ?_
   repeat'(first|exact ze3|refine ze2 ?_ ?_|refine ze4 ?_|exact ze5|fail)
   all_goals exact zp (by first|rfl|rw[Qbx])
theorem Qlt{l:List Job}{k:Nat}(h:l.length<=1000000000)(hk:k<=10000000000000000):MCalls Tryz.prog 98 [.row 1000000,zI k] [(1000000,.row 72 (jobE l) true)] (fun(_:Unit)=>True) (fun _=>[zI ((k+11*l.length:Nat):Int)]) (fun _=>[(1000000,.row 72 (jobE (JM (gJ k) l.length)) true)]) (fun _=>[]):=by
 refine Ji tt func98 rfl rfl rfl ⟨.inl rfl,trivial⟩ (fun _ _=>⟨⟨⟨rfl,rfl,(JN (f:=jobD) (z:=11) (fun _=>rfl) (QF _ _)).symm⟩,trivial⟩,.inl rfl,trivial⟩) (fun w0 Z O=>?_)
 repeat'(first|(refine zhm fun hb=>?_;try exact zab)|refine zUtp ?_|refine zg2 ?_ ?_|intro _|fail)
 refine Qa (fun(i:Nat)=>⟨96,[(0,.row 1000000),(1,zI ((k+11*i:Nat):Int)),(5,zI i)],[(1000000,.row 72 (jobE (mkL (gJ k) l i)) true)]⟩) (fun i=>i<=l.length) (fun i=>l.length-i) 0 (by omega) ?_ ?_
 ·exact zll
 ·intro i hi
  have hl2:(jobE (mkL (gJ k) l i)).length=l.length:=by rw[jobE,Xah,JU (gJ k) l hi]
  have hl3:=JU (gJ k) l hi
  repeat'(first|(refine zhm fun hb=>?_;try exact zab)|refine zUt ?_|refine zg2 ?_ ?_|(apply YE;first|(refine VG rfl rfl rfl rfl rfl hl2 (by omega) rfl rfl rfl rfl ?_)|(refine WS rfl rfl rfl rfl rfl hl2 (by omega) (Z5 (by omega)) rfl rfl rfl rfl ?_))|refine zln fun _=>?_|refine zop ?_|fail)
  ·refine⟨i+1,by omega,by omega,?_⟩
   refine zag ?_;exact zp (Qta (f:=jobD) (by omega))
  ·obtain rfl:i=l.length:=by omega
   refine zm () [] (by exact trivial) ?_ ?_ ?_
   repeat'(first|exact ze3|refine ze2 ?_ ?_|refine ze4 ?_|exact ze5|fail)
   all_goals exact zp (by first|rfl|rw[Qbx])
theorem Qlz{l:List Qb5}{k:Nat}(h:l.length<=1000000000)(hk:k<=10000000000000000):MCalls Tryz.prog 100 [.row 1000000,zI k] [(1000000,.row 172 (endE l) true)] (fun(_:Unit)=>True) (fun _=>[zI ((k+3*l.length:Nat):Int)]) (fun _=>[(1000000,.row 172 (endE (JM (gE k) l.length)) true)]) (fun _=>[]):=by
 refine Ji tt func100 rfl rfl rfl ⟨.inl rfl,trivial⟩ (fun _ _=>⟨⟨⟨rfl,rfl,(JN (f:=(fun(e:Qb5)=>([.n .i64 e.id,.n .i64 e.at',.n .i64 e.why]:List D))) (z:=3) (fun _=>rfl) (QF _ _)).symm⟩,trivial⟩,.inl rfl,trivial⟩) (fun w0 Z O=>?_)
 repeat'(first|(refine zhm fun hb=>?_;try exact zab)|refine zUtp ?_|refine zg2 ?_ ?_|intro _|fail)
 refine Qa (fun(i:Nat)=>⟨34,[(0,.row 1000000),(1,zI ((k+3*i:Nat):Int)),(5,zI i)],[(1000000,.row 172 (endE (mkL (gE k) l i)) true)]⟩) (fun i=>i<=l.length) (fun i=>l.length-i) 0 (by omega) ?_ ?_
 ·exact zll
 ·intro i hi
  have hl2:(endE (mkL (gE k) l i)).length=l.length:=by rw[endE,Xah,JU (gE k) l hi]
  have hl3:=JU (gE k) l hi
  repeat'(first|(refine zhm fun hb=>?_;try exact zab)|refine zUt ?_|refine zg2 ?_ ?_|(apply YE;first|(refine VG rfl rfl rfl rfl rfl hl2 (by omega) rfl rfl rfl rfl ?_)|(refine WS rfl rfl rfl rfl rfl hl2 (by omega) (Z5 (by omega)) rfl rfl rfl rfl ?_))|refine zln fun _=>?_|refine zop ?_|fail)
  ·refine⟨i+1,by omega,by omega,?_⟩
   refine zag ?_;exact zp (Qta (f:=(fun(e:Qb5)=>([.n .i64 e.id,.n .i64 e.at',.n .i64 e.why]:List D))) (by omega))
  ·obtain rfl:i=l.length:=by omega
   refine zm () [] (by exact trivial) ?_ ?_ ?_
   repeat'(first|exact ze3|refine ze2 ?_ ?_|refine ze4 ?_|exact ze5|fail)
   all_goals exact zp (by first|rfl|rw[Qbx])
theorem Qiw{n k:Nat}(h:n<=1000000000)(hk:k<=10000000000000000):zAc 217 [zL (Qz (JM (gN k) n)),zI k] [zI ((k+4*n:Nat):Int)] []:=by
  refine zAC func217 fun w0 Z=>?_
  have hl:=QF (gN k) n
  repeat'(first|(refine zhm fun hb=>?_;try exact zab)|refine zUtp ?_|refine zg2 ?_ ?_|intro _|fail)
  refine Qa (fun(i:Nat)=>⟨52,[(0,zL (Qz (JM (gN k) n))),(1,zI ((k+4*i:Nat):Int)),(5,zI i)],[]⟩) (fun i=>i<=n) (fun i=>n-i) 0 (by omega) ?_ ?_
  · exact zll
  · intro i hi
    repeat'(first|(refine zhm fun hb=>?_;try exact zab)|refine zUtp ?_|refine zg2 ?_ ?_|intro _|fail)
    all_goals first
      | (exact absurd (by rw[VF (by omega)];rfl) hb)
      | (refine⟨i+1,by omega,by omega,?_⟩
         refine⟨rfl,?_,?_,rfl⟩
         repeat'(first|exact ze3|refine ze2 ?_ ?_|refine ze4 ?_|exact ze5|fail)
         all_goals exact zp rfl)
      | (obtain rfl:i=n:=by omega
         refine zr [] ?_ ?_
         repeat'(first|exact ze3|refine ze2 ?_ ?_|refine ze4 ?_|exact ze5|fail)
         all_goals exact zp rfl)
theorem QlL{n k:Nat}(h:n<=1000000000)(hk:k<=10000000000000000):zAc 153 [zL (jobE (JM (gJ k) n)),zI k] [zI ((k+11*n:Nat):Int)] []:=by
  refine zAC func153 fun w0 Z=>?_
  have hl:=QF (gJ k) n
  repeat'(first|(refine zhm fun hb=>?_;try exact zab)|refine zUtp ?_|refine zg2 ?_ ?_|intro _|fail)
  refine Qa (fun(i:Nat)=>⟨118,[(0,zL (jobE (JM (gJ k) n))),(1,zI ((k+11*i:Nat):Int)),(5,zI i)],[]⟩) (fun i=>i<=n) (fun i=>n-i) 0 (by omega) ?_ ?_
  · exact zll
  · intro i hi
    repeat'(first|(refine zhm fun hb=>?_;try exact zab)|refine zUtp ?_|refine zg2 ?_ ?_|intro _|fail)
    all_goals first
      | (exact absurd (by rw[VF (by omega)];rfl) hb)
      | (refine⟨i+1,by omega,by omega,?_⟩
         refine⟨rfl,?_,?_,rfl⟩
         repeat'(first|exact ze3|refine ze2 ?_ ?_|refine ze4 ?_|exact ze5|fail)
         all_goals exact zp rfl)
      | (obtain rfl:i=n:=by omega
         refine zr [] ?_ ?_
         repeat'(first|exact ze3|refine ze2 ?_ ?_|refine ze4 ?_|exact ze5|fail)
         all_goals exact zp rfl)
theorem Ql7{n k:Nat}(h:n<=1000000000)(hk:k<=10000000000000000):zAc 155 [zL (endE (JM (gE k) n)),zI k] [zI ((k+3*n:Nat):Int)] []:=by
  refine zAC func155 fun w0 Z=>?_
  have hl:=QF (gE k) n
  repeat'(first|(refine zhm fun hb=>?_;try exact zab)|refine zUtp ?_|refine zg2 ?_ ?_|intro _|fail)
  refine Qa (fun(i:Nat)=>⟨40,[(0,zL (endE (JM (gE k) n))),(1,zI ((k+3*i:Nat):Int)),(5,zI i)],[]⟩) (fun i=>i<=n) (fun i=>n-i) 0 (by omega) ?_ ?_
  · exact zll
  · intro i hi
    repeat'(first|(refine zhm fun hb=>?_;try exact zab)|refine zUtp ?_|refine zg2 ?_ ?_|intro _|fail)
    all_goals first
      | (exact absurd (by rw[VF (by omega)];rfl) hb)
      | (refine⟨i+1,by omega,by omega,?_⟩
         refine⟨rfl,?_,?_,rfl⟩
         repeat'(first|exact ze3|refine ze2 ?_ ?_|refine ze4 ?_|exact ze5|fail)
         all_goals exact zp rfl)
      | (obtain rfl:i=n:=by omega
         refine zr [] ?_ ?_
         repeat'(first|exact ze3|refine ze2 ?_ ?_|refine ze4 ?_|exact ze5|fail)
         all_goals exact zp rfl)
theorem Qe0{n k:Nat}(h:n<=1000000000)(hk:k<=10000000000000000):zAc 108 [zL (intE (JM (gI k) n)),zI k] [zI ((k+1*n:Nat):Int)] []:=by
  refine zAC func108 fun w0 Z=>?_
  have hl:=QF (gI k) n
  repeat'(first|(refine zhm fun hb=>?_;try exact zab)|refine zUtp ?_|refine zg2 ?_ ?_|intro _|fail)
  refine Qa (fun(i:Nat)=>⟨21,[(0,zL (intE (JM (gI k) n))),(1,zI ((k+1*i:Nat):Int)),(5,zI i)],[]⟩) (fun i=>i<=n) (fun i=>n-i) 0 (by omega) ?_ ?_
  · exact zll
  · intro i hi
    repeat'(first|(refine zhm fun hb=>?_;try exact zab)|refine zUtp ?_|refine zg2 ?_ ?_|intro _|fail)
    all_goals first
      | (exact absurd (by rw[VF (by omega)];rfl) hb)
      | (refine⟨i+1,by omega,by omega,?_⟩
         refine⟨rfl,?_,?_,rfl⟩
         repeat'(first|exact ze3|refine ze2 ?_ ?_|refine ze4 ?_|exact ze5|fail)
         all_goals exact zp rfl)
      | (obtain rfl:i=n:=by omega
         refine zr [] ?_ ?_
         repeat'(first|exact ze3|refine ze2 ?_ ?_|refine ze4 ?_|exact ze5|fail)
         all_goals exact zp rfl)
def mR(k:Nat)(r:Run):Run:=⟨⟨(k:Int),((k+1:Nat):Int),((k+2:Nat):Int),⟨((k+3:Nat):Int),((k+4:Nat):Int),((k+5:Nat):Int)⟩,⟨((k+6:Nat):Int),((k+7:Nat):Int),((k+8:Nat):Int)⟩,((k+9:Nat):Int),((k+10:Nat):Int)⟩,((k+11:Nat):Int),JM (gI (k+12)) r.nodes.length⟩
section
variable {α:Type} (m:Nat->α->α) (w:α->Nat)
def mSq:Nat->List α->List α
 | _,[]=>[]
 | k,r::l=>m k r::mSq (k+w r) l
def kSq:Nat->List α->Nat
 | k,[]=>k
 | k,r::l=>kSq (k+w r) l
theorem WN:∀(k:Nat) (l:List α),(mSq m w k l).length=l.length
 | _,[]=>rfl
 | k,r::l=>by rw[mSq,Xar,WN,Xar]
def mxS(k:Nat)(l:List α)(j:Nat):List α:=mSq m w k (l.take j)++l.drop j
def kAtS(k:Nat)(l:List α)(j:Nat):Nat:=kSq w k (l.take j)
theorem Qss(k:Nat)(l:List α):mxS m w k l l.length=mSq m w k l:=by simp[mxS]
theorem Qq3(k:Nat)(l:List α):kAtS w k l l.length=kSq w k l:=by simp[kAtS]
theorem QlO{k:Nat}{l:List α}{j:Nat}(h:j<=l.length):(mxS m w k l j).length=l.length:=by simp[mxS,WN];omega
theorem QtN[Inhabited α]{k:Nat}{l:List α}{j:Nat}(h:j<l.length):nth (mxS m w k l j) j=nth l j:=by
 have:(mxS m w k l j)[j]?=l[j]?:=by
  unfold mxS
  rw[List.getElem?_append_right (by rw[WN,Xai];omega),List.getElem?_drop,WN,Xai]
  congr 1;omega
 simp only[nth,List.getD_eq_getElem?_getD,this]
theorem QnV[Inhabited α]:∀(k:Nat) (l:List α) (j:Nat),j<l.length->mSq m w k (l.take (j+1))=mSq m w k (l.take j)++[m (kAtS w k l j) (nth l j)]/\kAtS w k l (j+1)=kAtS w k l j+w (nth l j)
 | _,[],j,h=>absurd h (Xas _)
 | k,r::l,0,_=>by simp[mSq,kAtS,kSq,nth]
 | k,r::l,j+1,h=>by
  obtain⟨h1,h2⟩:=QnV (k+w r) l j (by simpa using h)
  have e:nth (r::l) (j+1)=nth l j:=by simp[nth]
  constructor
  ·rw[Xcx,mSq,h1,Xcx,mSq,e];rfl
  ·rw[e];exact h2
theorem QtG[Inhabited α]{f:α->List D}{k:Nat}{l:List α}{j:Nat}(h:j<l.length):((mxS m w k l j).map f).set j (f (m (kAtS w k l j) (nth l j)))=(mxS m w k l (j+1)).map f:=by
 have hl:(mSq m w k (l.take j)).length=j:=by rw[WN,Xai];omega
 have hd:l.drop j=nth l j::l.drop (j+1):=by
  rw[Xa4 h]
  simp[nth,h]
 unfold mxS
 rw[(QnV m w k l j h).1,hd,XaI,Xaw,Xbu _ _ (by rw[Xah,hl];exact Xam _),Xah,hl,XbX,Xbt]
 simp
theorem Qn5[Inhabited α]:∀(k:Nat) (l:List α) (j:Nat),j<l.length->nth (mSq m w k l) j=m (kAtS w k l j) (nth l j)
 | _,[],j,h=>absurd h (Xas _)
 | k,r::l,0,_=>by simp[mSq,kAtS,kSq,nth]
 | k,r::l,j+1,h=>by
  have:=Qn5 (k+w r) l j (by simpa using h)
  have e:nth (r::l) (j+1)=nth l j:=by simp[nth]
  have e2:nth (mSq m w k (r::l)) (j+1)=nth (mSq m w (k+w r) l) j:=by simp[nth,mSq]
  rw[e,e2]
  exact this
theorem QrV{c:Nat}:∀{l:List α} {k:Nat},(∀r∈l,w r<=c)->k<=kSq w k l/\kSq w k l<=k+c*l.length
 | [],k,_=>⟨Xam _,Xam _⟩
 | r::l,k,h=>by
  obtain⟨h1,h2⟩:=QrV (c:=c) (l:=l) (k:=k+w r) fun q hq=>h q (Xae _ hq)
  have:=h r Xaa
  rw[Xar,Nat.mul_succ]
  exact⟨Xao (Nat.le_add_right _ _) h1,by simp only[kSq];omega⟩
theorem QsY[Inhabited α]{c:Nat}{l:List α}{k j:Nat}(h:∀j,j<l.length->w (nth l j)<=c)(hl:l.length<=1048576):k<=kAtS w k l j/\kAtS w k l j<=k+c*1048576:=by
 have h1:∀r∈l.take j,w r<=c:=fun r hr=>by
  obtain⟨i,hi,rfl⟩:=Xba (XaC hr)
  have:=h i hi
  simpa [nth,hi] using this
 obtain⟨h2,h3⟩:=QrV w (k:=k) h1
 have:(l.take j).length<=1048576:=by rw[Xai];omega
 exact⟨h2,Xao h3 (Nat.add_le_add_left (Nat.mul_le_mul_left c this) k)⟩
end
theorem QuN{α:Type}[Inhabited α]{l:List α}{j:Nat}(h:j<l.length):l[j]?=some (nth l j):=by simp[nth,h]
@[reducible] def wR (r:Run):Nat:=12+r.nodes.length
@[reducible] def mRs (k:Nat) (l:List Run):List Run:=mSq mR wR k l
@[reducible] def kR (k:Nat) (l:List Run):Nat:=kSq wR k l
@[reducible] def mxR (k:Nat) (l:List Run) (j:Nat):List Run:=mxS mR wR k l j
@[reducible] def kAt (k:Nat) (l:List Run) (j:Nat):Nat:=kAtS wR k l j
theorem VY(k:Nat)(l:List Run):(mRs k l).length=l.length:=WN mR wR k l
theorem Qtr(k:Nat)(l:List Run):mxR k l l.length=mRs k l:=Qss mR wR k l
theorem Qjg(k:Nat)(l:List Run):kAt k l l.length=kR k l:=Qq3 wR k l
theorem QlM{k:Nat}{l:List Run}{j:Nat}(h:j<=l.length):(mxR k l j).length=l.length:=QlO mR wR h
theorem QtK{k:Nat}{l:List Run}{j:Nat}(h:j<l.length):nth (mxR k l j) j=nth l j:=QtN mR wR h
theorem Qsa(k:Nat)(l:List Run)(j:Nat)(h:j<l.length):mRs k (l.take (j+1))=mRs k (l.take j)++[mR (kAt k l j) (nth l j)]/\kAt k l (j+1)=kAt k l j+12+(nth l j).nodes.length:=by
 obtain⟨h1,h2⟩:=QnV mR wR k l j h
 exact⟨h1,by rw[show kAt k l (j+1)=kAt k l j+(12+(nth l j).nodes.length) from h2];omega⟩
theorem Qsj{k:Nat}{l:List Run}{j:Nat}(h:j<l.length):(runE (mxR k l j)).set j (runD (mR (kAt k l j) (nth l j)))=runE (mxR k l (j+1)):=QtG mR wR (f:=runD) h
theorem QsK(k:Nat)(l:List Run)(j:Nat)(h:j<l.length):nth (mRs k l) j=mR (kAt k l j) (nth l j):=Qn5 mR wR k l j h
theorem QoK{l:List Run}{k j:Nat}(h:∀j,j<l.length->(nth l j).nodes.length<=1048576)(hl:l.length<=1048576):k<=kAt k l j/\kAt k l j<=k+1099524276288:=by
 have:=QsY wR (c:=1048588) (k:=k) (j:=j) (fun i hi=>by have:=h i hi;simp only[wR];omega) hl
 have e:kAtS wR k l j=kAt k l j:=rfl
 rw[e]at this
 omega
theorem Qex{e':TypeId}(he:(Tryz.prog.info? e').map (·.size)=some 1){l:List Int}{k:Nat}(h:l.length<=1000000000)(hk:k<=10000000000000000):MCalls Tryz.prog 107 [.row 1000000,zI k] [(1000000,.row e' (intE l) true)] (fun(_:Unit)=>True) (fun _=>[zI ((k+1*l.length:Nat):Int)]) (fun _=>[(1000000,.row e' (intE (JM (gI k) l.length)) true)]) (fun _=>[]):=by
 refine Ji tt func107 rfl rfl rfl ⟨.inl rfl,trivial⟩ (fun _ _=>⟨⟨⟨rfl,rfl,(JN (f:=(fun(x:Int)=>([.n .i64 x]:List D))) (z:=1) (fun _=>rfl) (QF _ _)).symm⟩,trivial⟩,.inl rfl,trivial⟩) (fun w0 Z O=>?_)
 repeat'(first|(refine zhm fun hb=>?_;try exact zab)|refine zUtp ?_|refine zg2 ?_ ?_|intro _|fail)
 refine Qa (fun(i:Nat)=>⟨19,[(0,.row 1000000),(1,zI ((k+1*i:Nat):Int)),(5,zI i)],[(1000000,.row e' (intE (mkL (gI k) l i)) true)]⟩) (fun i=>i<=l.length) (fun i=>l.length-i) 0 (by omega) ?_ ?_
 ·exact zll
 ·intro i hi
  have hl2:(intE (mkL (gI k) l i)).length=l.length:=by rw[intE,Xah,JU (gI k) l hi]
  have hl3:=JU (gI k) l hi
  repeat'(first|(refine zhm fun hb=>?_;try exact zab)|refine zUt ?_|refine zg2 ?_ ?_|(apply YE;first|(refine QOk.ok (QpI (e:=3) rfl rfl rfl rfl rfl he rfl rfl hl2 (by omega) rfl ?_))|(refine WS rfl rfl rfl rfl rfl hl2 (by omega) (Z5 (by omega)) rfl rfl rfl rfl ?_))|refine zln fun _=>?_|refine zop ?_|fail)
  ·refine⟨i+1,by omega,by omega,?_⟩
   refine zag ?_;exact zp (Qta (f:=(fun(x:Int)=>([.n .i64 x]:List D))) (by omega))
  ·obtain rfl:i=l.length:=by omega
   refine zm () [] (by exact trivial) ?_ ?_ ?_
   repeat'(first|exact ze3|refine ze2 ?_ ?_|refine ze4 ?_|exact ze5|fail)
   all_goals exact zp (by first|rfl|rw[Qbx])
theorem Qey{k:Nat}:zAc 107 [zL [],zI k] [zI k] []:=by
 refine zAC func107 fun w0 Z=>?_
 repeat'(first|(refine zhm fun hb=>?_;try exact zab)|refine zUtp ?_|refine zg2 ?_ ?_|intro _|fail)
 refine Qa (fun(_:Unit)=>⟨19,[(0,zL []),(1,zI k),(5,zI 0)],[]⟩) (fun _=>True) (fun _=>0) () trivial ?_ ?_
 ·exact zll
 ·intro i hi
  repeat'(first|(refine zhm fun hb=>?_;try exact zab)|refine zUtp ?_|refine zg2 ?_ ?_|intro _|fail)
  exact zrr
theorem QkQ{l:List Int}:(∀q∈intE l,q.length=1):=fun q hq=>by
 obtain⟨x,_,rfl⟩:=Xad.1 hq
 rfl
theorem Qlp{l:List Run}{k:Nat}(h:l.length<=1048576)(hr:∀j,j<l.length->(nth l j).nodes.length<=1048576)(hk:k<=1000000000000000):MCalls Tryz.prog 99 [.row 1000000,zI k] [(1000000,.row 170 (runE l) true)] (fun(_:Unit)=>True) (fun _=>[zI ((kR k l:Nat):Int)]) (fun _=>[(1000000,.row 170 (runE (mRs k l)) true)]) (fun _=>[]):=by
 refine Ji tt func99 rfl rfl rfl ⟨.inl rfl,trivial⟩ (fun _ _=>⟨⟨⟨rfl,rfl,(JN (f:=runD) (z:=13) (fun _=>rfl) (VY _ _)).symm⟩,trivial⟩,.inl rfl,trivial⟩) (fun w0 Z O=>?_)
 repeat'(first|(refine zhm fun hb=>?_;try exact zab)|refine zUtp ?_|refine zg2 ?_ ?_|intro _|fail)
 refine Qa (fun(i:Nat)=>⟨121,[(0,.row 1000000),(1,zI ((kAt k l i:Nat):Int)),(5,zI i)],[(1000000,.row 170 (runE (mxR k l i)) true)]⟩) (fun i=>i<=l.length) (fun i=>l.length-i) 0 (by omega) ?_ ?_
 ·exact zll
 ·intro i hi
  have hl3:=QlM (k:=k) hi
  have hl2:(runE (mxR k l i)).length=l.length:=by rw[Qf,hl3]
  by_cases hi':i<l.length
  ·have hat:=QiC (l:=mxR k l i) (j:=i) (by omega)
   rw[QtK hi']at hat
   have hka:=QoK (k:=k) (j:=i) hr h
   have hnl:=hr i hi'
   have hst:=(Qsa k l i hi').2
   repeat'(first|(refine zhm fun hb=>?_;try exact zab)|(refine QhW (z1:=1) (es1:=intE (nth l i).nodes) (es2:=intE (JM (gI (kAt k l i+12)) (nth l i).nodes.length)) (kv:=((kAt k l i+12:Nat):Int)) (kr:=((kAt k l i+12+1*(nth l i).nodes.length:Nat):Int)) rfl rfl rfl rfl rfl rfl (List.getElem?_set_self (by omega)) rfl rfl rfl rfl rfl rfl (by intro k h;injection h with h;subst h;rfl) rfl rfl rfl rfl rfl rfl QkQ (QN fun _=>rfl) (QN fun _=>rfl) (by rw[ZY,ZY,QF]) (fun _ e' he=>Qex he (by omega) (by omega)) (fun he=>by rw[show(nth l i).nodes.length=0 from by rw[<-ZY,he];rfl];exact Qey) ?_)|refine zUt ?_|refine zg2 ?_ ?_|(apply YE;first|(refine VG rfl rfl rfl rfl rfl hl2 (by omega) rfl rfl rfl rfl ?_)|(refine WS rfl rfl rfl rfl rfl hl2 (by omega) hat rfl rfl rfl rfl ?_))|refine zln fun _=>?_|refine zop ?_|fail)
   refine⟨i+1,by omega,by omega,?_⟩
   refine⟨rfl,?_,?_,rfl⟩
   repeat'(first|exact ze3|refine ze2 ?_ ?_|refine ze4 ?_|exact ze5|fail)
   all_goals exact zp (by first|rfl|exact(List.set_set ..).trans (Qsj hi')|(rw[hst];congr 1;omega))
  ·obtain rfl:i=l.length:=by omega
   repeat'(first|(refine zhm fun hb=>?_;try exact zab)|refine zUtp ?_|refine zg2 ?_ ?_|intro _|fail)
   refine zm () [] (by exact trivial) ?_ ?_ ?_
   repeat'(first|exact ze3|refine ze2 ?_ ?_|refine ze4 ?_|exact ze5|fail)
   all_goals exact zp (by first|rfl|rw[Qtr]|rw[Qjg])
def gO(k j:Nat):Bool:=decide ((((k+1*j) % 3:Nat):Int)=0)
theorem Qjn{l:List Bool}{k:Nat}(h:l.length<=1000000000)(hk:k<=10000000000000000):MCalls Tryz.prog 97 [.row 1000000,zI k] [(1000000,.row 4 (Qq l) true)] (fun(_:Unit)=>True) (fun _=>[zI ((k+1*l.length:Nat):Int)]) (fun _=>[(1000000,.row 4 (Qq (JM (gO k) l.length)) true)]) (fun _=>[]):=by
 refine Ji tt func97 rfl rfl rfl ⟨.inl rfl,trivial⟩ (fun _ _=>⟨⟨⟨rfl,rfl,(JN (f:=(fun(b:Bool)=>([.b b]:List D))) (z:=1) (fun _=>rfl) (QF _ _)).symm⟩,trivial⟩,.inl rfl,trivial⟩) (fun w0 Z O=>?_)
 repeat'(first|(refine zhm fun hb=>?_;try exact zab)|refine zUtp ?_|refine zg2 ?_ ?_|intro _|fail)
 refine Qa (fun(i:Nat)=>⟨21,[(0,.row 1000000),(1,zI ((k+1*i:Nat):Int)),(5,zI i)],[(1000000,.row 4 (Qq (mkL (gO k) l i)) true)]⟩) (fun i=>i<=l.length) (fun i=>l.length-i) 0 (by omega) ?_ ?_
 ·exact zll
 ·intro i hi
  have hl2:(Qq (mkL (gO k) l i)).length=l.length:=by rw[Qq,Xah,JU (gO k) l hi]
  have hl3:=JU (gO k) l hi
  repeat'(first|(refine zhm fun hb=>?_;try exact zab)|refine zUt ?_|refine zg2 ?_ ?_|(apply YE;first|(refine VG rfl rfl rfl rfl rfl hl2 (by omega) rfl rfl rfl rfl ?_)|(refine WS rfl rfl rfl rfl rfl hl2 (by omega) (Z5 (by omega)) rfl rfl rfl rfl ?_))|refine zln fun _=>?_|refine zop ?_|fail)
  ·refine⟨i+1,by omega,by omega,?_⟩
   refine zag ?_;exact zp (Qta (f:=(fun(b:Bool)=>([.b b]:List D))) (by omega))
  ·obtain rfl:i=l.length:=by omega
   refine zm () [] (by exact trivial) ?_ ?_ ?_
   repeat'(first|exact ze3|refine ze2 ?_ ?_|refine ze4 ?_|exact ze5|fail)
   all_goals exact zp (by first|rfl|rw[Qbx])
theorem QiS{n k:Nat}(h:n<=1000000000)(hk:k<=10000000000000000):zAc 152 [zL (Qq (JM (gO k) n)),zI k] [zI ((k+1*n:Nat):Int)] []:=by
  refine zAC func152 fun w0 Z=>?_
  have hl:=QF (gO k) n
  repeat'(first|(refine zhm fun hb=>?_;try exact zab)|refine zUtp ?_|refine zg2 ?_ ?_|intro _|fail)
  refine Qa (fun(i:Nat)=>⟨23,[(0,zL (Qq (JM (gO k) n))),(1,zI ((k+1*i:Nat):Int)),(5,zI i)],[]⟩) (fun i=>i<=n) (fun i=>n-i) 0 (by omega) ?_ ?_
  · exact zll
  · intro i hi
    repeat'(first|(refine zhm fun hb=>?_;try exact zab)|refine zUtp ?_|refine zg2 ?_ ?_|intro _|fail)
    all_goals first
      | (exact absurd (by rw[VF (by omega)];rfl) hb)
      | (refine⟨i+1,by omega,by omega,?_⟩
         refine⟨rfl,?_,?_,rfl⟩
         repeat'(first|exact ze3|refine ze2 ?_ ?_|refine ze4 ?_|exact ze5|fail)
         all_goals exact zp rfl)
      | (obtain rfl:i=n:=by omega
         refine zr [] ?_ ?_
         repeat'(first|exact ze3|refine ze2 ?_ ?_|refine ze4 ?_|exact ze5|fail)
         all_goals exact zp rfl)
theorem QkY{l:List Int}(h:l.length<=1048576):zAc 66 [zL (intE l)] [.row 0] [(0,.row 3 (intE l) true)]:=by
 refine zAC func66 fun w0 Z=>?_
 have hl:=Qb l
 repeat'(first|(refine zhm fun hb=>?_;try exact zab)|refine zUtp ?_|refine zg2 ?_ ?_|intro _|fail)
 refine Qa (fun(i:Nat)=>⟨22,[(0,zL (intE l)),(3,.row 7),(4,zI i)],[(7,.row 3 (intE (cpyL l 0 i)) true)]⟩) (fun i=>i<=l.length) (fun i=>l.length-i) 0 (by exact Xab _) ?_ ?_
 ·refine⟨rfl,?_,?_,rfl⟩
  repeat'(first|exact ze3|refine ze2 ?_ ?_|refine ze4 ?_|exact ze5|fail)
  all_goals exact zp (by first|rfl|(rw[JR];exact(List.map_replicate ..).symm)|(rw[JR];simp[intE]))
 ·intro i hi
  have hcl:(intE (cpyL l 0 i)).length=l.length:=by rw[Qb];exact Qw _ _ hi
  have hcl2:=Qw l 0 hi
  by_cases hi':i<l.length
  ·repeat'(first|(refine zhm fun hb=>?_;try exact zab)|refine zUtp ?_|refine zg2 ?_ ?_|intro _|fail)
   refine⟨i+1,by omega,by omega,?_⟩
   refine zag ?_;exact zp (Yl (f:=(fun x=>([.n .i64 x]:List D))) hi')
  ·obtain rfl:i=l.length:=by omega
   repeat'(first|(refine zhm fun hb=>?_;try exact zab)|refine zUtp ?_|refine zg2 ?_ ?_|intro _|fail)
   refine zr [7] ?_ ?_
   repeat'(first|exact ze3|refine ze2 ?_ ?_|refine ze4 ?_|exact ze5|fail)
   all_goals exact zp (by first|rfl|rw[Ym])
theorem Qn8{l:List Bool}(h:l.length<=1048576):zAc 84 [zL (Qq l)] [.row 0] [(0,.row 4 (Qq l) true)]:=by
 refine zAC func84 fun w0 Z=>?_
 have hl:=Qo l
 repeat'(first|(refine zhm fun hb=>?_;try exact zab)|refine zUtp ?_|refine zg2 ?_ ?_|intro _|fail)
 refine Qa (fun(i:Nat)=>⟨22,[(0,zL (Qq l)),(3,.row 7),(4,zI i)],[(7,.row 4 (Qq (cpyL l false i)) true)]⟩) (fun i=>i<=l.length) (fun i=>l.length-i) 0 (by exact Xab _) ?_ ?_
 ·refine⟨rfl,?_,?_,rfl⟩
  repeat'(first|exact ze3|refine ze2 ?_ ?_|refine ze4 ?_|exact ze5|fail)
  all_goals exact zp (by first|rfl|(rw[JR];exact(List.map_replicate ..).symm)|(rw[JR];simp[Qq]))
 ·intro i hi
  have hcl:(Qq (cpyL l false i)).length=l.length:=by rw[Qo];exact Qw _ _ hi
  have hcl2:=Qw l false hi
  by_cases hi':i<l.length
  ·repeat'(first|(refine zhm fun hb=>?_;try exact zab)|refine zUtp ?_|refine zg2 ?_ ?_|intro _|fail)
   refine⟨i+1,by omega,by omega,?_⟩
   refine zag ?_;exact zp (Yl (f:=(fun b=>([.b b]:List D))) hi')
  ·obtain rfl:i=l.length:=by omega
   repeat'(first|(refine zhm fun hb=>?_;try exact zab)|refine zUtp ?_|refine zg2 ?_ ?_|intro _|fail)
   refine zr [7] ?_ ?_
   repeat'(first|exact ze3|refine ze2 ?_ ?_|refine ze4 ?_|exact ze5|fail)
   all_goals exact zp (by first|rfl|rw[Ym])
theorem QoH{l:List X6}(h:l.length<=1048576):zAc 141 [zL (Qz l)] [.row 0] [(0,.row 225 (Qz l) true)]:=by
 refine zAC func141 fun w0 Z=>?_
 have hl:=Qr l
 repeat'(first|(refine zhm fun hb=>?_;try exact zab)|refine zUtp ?_|refine zg2 ?_ ?_|intro _|fail)
 refine Qa (fun(i:Nat)=>⟨23,[(0,zL (Qz l)),(3,.row 7),(4,zI i)],[(7,.row 225 (Qz (cpyL l ⟨0,⟨0,0,0⟩⟩ i)) true)]⟩) (fun i=>i<=l.length) (fun i=>l.length-i) 0 (by exact Xab _) ?_ ?_
 ·refine⟨rfl,?_,?_,rfl⟩
  repeat'(first|exact ze3|refine ze2 ?_ ?_|refine ze4 ?_|exact ze5|fail)
  all_goals exact zp (by first|rfl|(rw[JR];exact(List.map_replicate ..).symm)|(rw[JR];simp[Qz]))
 ·intro i hi
  have hcl:(Qz (cpyL l ⟨0,⟨0,0,0⟩⟩ i)).length=l.length:=by rw[Qr];exact Qw _ _ hi
  have hcl2:=Qw l ⟨0,⟨0,0,0⟩⟩ hi
  by_cases hi':i<l.length
  ·repeat'(first|(refine zhm fun hb=>?_;try exact zab)|refine zUtp ?_|refine zg2 ?_ ?_|refine kc (QjB (x:=nth l i)) rfl rfl ?_|intro _|fail)
   refine⟨i+1,by omega,by omega,?_⟩
   refine⟨rfl,?_,?_,rfl⟩
   repeat'(first|exact ze3|refine ze2 ?_ ?_|refine ze4 ?_|exact ze5|fail)
   all_goals exact zp (by first|rfl|exact Yl (f:=(fun n=>([.n .i64 n.leaf,.n .i64 n.cap.a,.n .i64 n.cap.b,.n .i64 n.cap.c]:List D))) hi')
  ·obtain rfl:i=l.length:=by omega
   repeat'(first|(refine zhm fun hb=>?_;try exact zab)|refine zUtp ?_|refine zg2 ?_ ?_|intro _|fail)
   refine zr [7] ?_ ?_
   repeat'(first|exact ze3|refine ze2 ?_ ?_|refine ze4 ?_|exact ze5|fail)
   all_goals exact zp (by first|rfl|rw[Ym])
theorem Qp8{l:List Job}(h:l.length<=1048576):zAc 85 [zL (jobE l)] [.row 0] [(0,.row 72 (jobE l) true)]:=by
 refine zAC func85 fun w0 Z=>?_
 have hl:=Qk l
 repeat'(first|(refine zhm fun hb=>?_;try exact zab)|refine zUtp ?_|refine zg2 ?_ ?_|intro _|fail)
 refine Qa (fun(i:Nat)=>⟨23,[(0,zL (jobE l)),(3,.row 7),(4,zI i)],[(7,.row 72 (jobE (cpyL l ⟨0,0,0,⟨0,0,0⟩,⟨0,0,0⟩,0,0⟩ i)) true)]⟩) (fun i=>i<=l.length) (fun i=>l.length-i) 0 (by exact Xab _) ?_ ?_
 ·refine⟨rfl,?_,?_,rfl⟩
  repeat'(first|exact ze3|refine ze2 ?_ ?_|refine ze4 ?_|exact ze5|fail)
  all_goals exact zp (by first|rfl|(rw[JR];exact(List.map_replicate ..).symm)|(rw[JR];simp[jobE]))
 ·intro i hi
  have hcl:(jobE (cpyL l ⟨0,0,0,⟨0,0,0⟩,⟨0,0,0⟩,0,0⟩ i)).length=l.length:=by rw[Qk];exact Qw _ _ hi
  have hcl2:=Qw l ⟨0,0,0,⟨0,0,0⟩,⟨0,0,0⟩,0,0⟩ hi
  by_cases hi':i<l.length
  ·repeat'(first|(refine zhm fun hb=>?_;try exact zab)|refine zUtp ?_|refine zg2 ?_ ?_|refine kc (QcV (x:=nth l i)) rfl rfl ?_|intro _|fail)
   refine⟨i+1,by omega,by omega,?_⟩
   refine zag ?_;exact zp (Yl (f:=jobD) hi')
  ·obtain rfl:i=l.length:=by omega
   repeat'(first|(refine zhm fun hb=>?_;try exact zab)|refine zUtp ?_|refine zg2 ?_ ?_|intro _|fail)
   refine zr [7] ?_ ?_
   repeat'(first|exact ze3|refine ze2 ?_ ?_|refine ze4 ?_|exact ze5|fail)
   all_goals exact zp (by first|rfl|rw[Ym])
theorem Qrp{l:List Qb5}(h:l.length<=1048576):zAc 87 [zL (endE l)] [.row 0] [(0,.row 172 (endE l) true)]:=by
 refine zAC func87 fun w0 Z=>?_
 have hl:=QC l
 repeat'(first|(refine zhm fun hb=>?_;try exact zab)|refine zUtp ?_|refine zg2 ?_ ?_|intro _|fail)
 refine Qa (fun(i:Nat)=>⟨23,[(0,zL (endE l)),(3,.row 7),(4,zI i)],[(7,.row 172 (endE (cpyL l ⟨0,0,0⟩ i)) true)]⟩) (fun i=>i<=l.length) (fun i=>l.length-i) 0 (by exact Xab _) ?_ ?_
 ·refine⟨rfl,?_,?_,rfl⟩
  repeat'(first|exact ze3|refine ze2 ?_ ?_|refine ze4 ?_|exact ze5|fail)
  all_goals exact zp (by first|rfl|(rw[JR];exact(List.map_replicate ..).symm)|(rw[JR];simp[endE]))
 ·intro i hi
  have hcl:(endE (cpyL l ⟨0,0,0⟩ i)).length=l.length:=by rw[QC];exact Qw _ _ hi
  have hcl2:=Qw l ⟨0,0,0⟩ hi
  by_cases hi':i<l.length
  ·repeat'(first|(refine zhm fun hb=>?_;try exact zab)|refine zUtp ?_|refine zg2 ?_ ?_|refine kc (Qor (x:=nth l i)) rfl rfl ?_|intro _|fail)
   refine⟨i+1,by omega,by omega,?_⟩
   refine⟨rfl,?_,?_,rfl⟩
   repeat'(first|exact ze3|refine ze2 ?_ ?_|refine ze4 ?_|exact ze5|fail)
   all_goals exact zp (by first|rfl|exact Yl (f:=(fun e=>([.n .i64 e.id,.n .i64 e.at',.n .i64 e.why]:List D))) hi')
  ·obtain rfl:i=l.length:=by omega
   repeat'(first|(refine zhm fun hb=>?_;try exact zab)|refine zUtp ?_|refine zg2 ?_ ?_|intro _|fail)
   refine zr [7] ?_ ?_
   repeat'(first|exact ze3|refine ze2 ?_ ?_|refine ze4 ?_|exact ze5|fail)
   all_goals exact zp (by first|rfl|rw[Ym])
theorem Qrk{α:Type}[Inhabited α]{l:List α}{z:α}{i:Nat}(h:i<l.length):nth (cpyL l z i) i=z:=by
 have:(cpyL l z i)[i]?=some z:=by
  unfold cpyL
  rw[List.getElem?_append_right (by simp;omega)]
  simp[show min i l.length=i by omega,List.getElem?_replicate]
  omega
 simp[nth,this]
@[reducible] def runO (r:Run) (q:Nat):AV:=.agg [zI r.job.id,zI r.job.prio,zI r.job.nodes,zI r.job.need.a,zI r.job.need.b,zI r.job.need.c,zI r.job.lic.a,zI r.job.lic.b,zI r.job.lic.c,zI r.job.wall,zI r.job.level,zI r.at',.row q]
theorem Qsn{r:Run}(h:r.nodes.length<=1048576):zAc 142 [runA r] [runO r 0] [(0,.row 3 (intE r.nodes) true)]:=by
 refine zAC func142 fun w0 Z=>?_
 repeat'(first|(refine zhm fun hb=>?_;try exact zab)|refine zUto ?_|refine zg2 ?_ ?_|refine kc (QcV (x:=r.job)) rfl rfl ?_|refine kc (QkY (l:=r.nodes) h) rfl rfl ?_|intro _|fail)
 exact zr [13] zae zae
theorem Qp9{l:List Run}(h:l.length<=1048576)(hr:∀j,j<l.length->(nth l j).nodes.length<=1048576):zAc 86 [zL (runE l)] [.row 0] [(0,.row 170 (runE l) true)]:=by
 refine zAC func86 fun w0 Z=>?_
 have hl:=Qf l
 repeat'(first|(refine zhm fun hb=>?_;try exact zab)|refine zUt ?_|refine zg2 ?_ ?_|(apply YE;first|refine zom ?_|(refine QkE rfl rfl rfl rfl (by first|with_reducible rfl|exact nlit _|rfl) rfl (by first|with_reducible rfl|exact nlit _|rfl) (by omega) ⟨rfl,rfl,rfl⟩ rfl rfl rfl rfl rfl ?_))|refine zln fun _=>?_|refine zop ?_|fail)
 refine Qa (fun(i:Nat)=>⟨23,[(0,zL (runE l)),(3,.row 7),(4,zI i)],[(7,.row 170 (runE (cpyL l zRun i)) true)]⟩) (fun i=>i<=l.length) (fun i=>l.length-i) 0 (by exact Xab _) ?_ ?_
 ·refine⟨rfl,?_,?_,rfl⟩
  repeat'(first|exact ze3|refine ze2 ?_ ?_|refine ze4 ?_|exact ze5|fail)
  all_goals exact zp (by first|rfl|(rw[JR];exact(List.map_replicate ..).symm)|(rw[JR];simp[runE,zRun,intE]))
 ·intro k hk
  have hcl:(runE (cpyL l zRun k)).length=l.length:=by rw[Qf];exact Qw _ _ hk
  have hcl2:=Qw l zRun hk
  by_cases hk':k<l.length
  ·have hat:=QiC (l:=cpyL l zRun k) (j:=k) (by omega)
   rw[Qrk hk']at hat
   repeat'(first|(refine zhm fun hb=>?_;try exact zab)|refine zUt ?_|refine zg2 ?_ ?_|(apply YE;first|(refine QnW rfl rfl rfl rfl rfl rfl rfl rfl rfl rfl hcl (by omega) hat rfl rfl rfl (QN fun _=>rfl) rfl rfl ?_))|refine zln fun _=>?_|refine zop ?_|refine kc (Qsn (r:=nth l k) (hr k hk')) rfl rfl ?_|fail)
   refine⟨k+1,by omega,by omega,?_⟩
   refine zag ?_;exact zp (Yl (f:=runD) hk')
  ·obtain rfl:k=l.length:=by omega
   repeat'(first|(refine zhm fun hb=>?_;try exact zab)|refine zUtp ?_|refine zg2 ?_ ?_|intro _|fail)
   refine zr [7] ?_ ?_
   repeat'(first|exact ze3|refine ze2 ?_ ?_|refine ze4 ?_|exact ze5|fail)
   all_goals exact zp (by first|rfl|rw[Ym])
theorem QqR{t:QW}(h1:t.parents.length<=1048576)(h2:t.nodes.length<=1048576):zAc 83 [Yy t] [.agg [.row 0,.row 1]] [(0,.row 3 (intE t.parents) true),(1,.row 225 (Qz t.nodes) true)]:=by
 refine zAC func83 fun w0 Z=>?_
 repeat'(first|(refine zhm fun hb=>?_;try exact zab)|refine zUto ?_|refine zg2 ?_ ?_|refine kc (QkY (l:=t.parents) h1) rfl rfl ?_|refine kc (QoH (l:=t.nodes) h2) rfl rfl ?_|intro _|fail)
 exact zr [6,10] zae zae
@[reducible] def ZL (s:Qd) (q0 q1 q2 q3 q4 q5:Nat):AV:=.agg [.row q0,.row q1,.row q2,zI s.lic.a,zI s.lic.b,zI s.lic.c,zI s.depth,zI s.now,.row q3,.row q4,.row q5]
@[reducible] def QbO (s:Qd):List (Nat×AO):=[(0,.row 3 (intE s.topo.parents) true),(1,.row 225 (Qz s.topo.nodes) true),(2,.row 4 (Qq s.up) true),(3,.row 72 (jobE s.queue) true),(4,.row 170 (runE s.runs) true),(5,.row 172 (endE s.ends) true)]
theorem VM{s:Qd}(h:Ql 1048576 s):zAc 30 [Qx s] [ZL s 0 1 2 3 4 5] (QbO s):=by
 refine zAC func30 fun w0 Z=>?_
 repeat'(first|(refine zhm fun hb=>?_;try exact zab)|refine zUto ?_|refine zg2 ?_ ?_|refine kc (QqR (t:=s.topo) h.par h.nod) rfl rfl ?_|refine kc (Qn8 (l:=s.up) h.up) rfl rfl ?_|refine kc (Qa1 (x:=s.lic)) rfl rfl ?_|refine kc (Qp8 (l:=s.queue) h.que) rfl rfl ?_|refine kc (Qp9 (l:=s.runs) h.run h.rno) rfl rfl ?_|refine kc (Qrp (l:=s.ends) h.end') rfl rfl ?_|intro _|fail)
 exact zr [6,1006,10,24,28,32] zae zae
theorem Qlo{l:List Run}{k:Nat}(h:l.length<=1048576)(hr:∀j,j<l.length->(nth l j).nodes.length<=1048576)(hk:k<=1000000000000000):zAc 154 [zL (runE (mRs k l)),zI k] [zI ((kR k l:Nat):Int)] []:=by
  refine zAC func154 fun w0 Z=>?_
  have hl:(runE (mRs k l)).length=l.length:=by rw[Qf,VY]
  have hl2:=VY k l
  repeat'(first|(refine zhm fun hb=>?_;try exact zab)|refine zUtp ?_|refine zg2 ?_ ?_|intro _|fail)
  refine Qa (fun(i:Nat)=>⟨147,[(0,zL (runE (mRs k l))),(1,zI ((kAt k l i:Nat):Int)),(5,zI i)],[]⟩) (fun i=>i<=l.length) (fun i=>l.length-i) 0 (by omega) ?_ ?_
  · exact zll
  · intro i hi
    by_cases hi':i<l.length
    · have hka:=QoK (k:=k) (j:=i) hr h
      have hnl:=hr i hi'
      have hst:=(Qsa k l i hi').2
      have hat:(runE (mRs k l))[i]?=some (runD (mR (kAt k l i) (nth l i))):=by rw[<-QsK k l i hi'];exact QiC (by rw[VY];exact hi')
      repeat'(first|(refine zhm fun hb=>?_;try exact zab)|refine zUt ?_|refine zg2 ?_ ?_|(apply YE;first|(refine QOk.ok (QnY rfl rfl rfl rfl rfl (nlit _) hl (by omega) hat rfl rfl ?_)))|refine zln fun _=>?_|refine zop ?_|refine kc (Qe0 (n:=(nth l i).nodes.length) (k:=kAt k l i+12) (by omega) (by omega)) rfl rfl ?_|fail)
      all_goals first
        | (exact absurd rfl hb)
        | (refine⟨i+1,by omega,by omega,?_⟩
           refine⟨rfl,?_,?_,rfl⟩
           repeat'(first|exact ze3|refine ze2 ?_ ?_|refine ze4 ?_|exact ze5|fail)
           all_goals exact zp (by first|rfl|(rw[hst];congr 1;omega)))
    · obtain rfl:i=l.length:=by omega
      repeat'(first|(refine zhm fun hb=>?_;try exact zab)|refine zUtp ?_|refine zg2 ?_ ?_|intro _|fail)
      refine zr [] ?_ ?_
      repeat'(first|exact ze3|refine ze2 ?_ ?_|refine ze4 ?_|exact ze5|fail)
      all_goals exact zp (by first|rfl|rw[Qjg])
def mTp(k:Nat)(t:QW):QW:=⟨JM (gI k) t.parents.length,JM (gN (k+1*t.parents.length)) t.nodes.length⟩
def kTp(k:Nat)(t:QW):Nat:=k+1*t.parents.length+4*t.nodes.length
def kUp(k:Nat)(s:Qd):Nat:=kTp k s.topo+1*s.up.length
def kQu(k:Nat)(s:Qd):Nat:=kUp k s+11*s.queue.length
def kRu(k:Nat)(s:Qd):Nat:=kR (kQu k s) s.runs
def kSt(k:Nat)(s:Qd):Nat:=kRu k s+3*s.ends.length
def mSt(k:Nat)(s:Qd):Qd:=⟨mTp k s.topo,JM (gO (kTp k s.topo)) s.up.length,s.lic,s.depth,s.now,JM (gJ (kUp k s)) s.queue.length,mRs (kQu k s) s.runs,JM (gE (kRu k s)) s.ends.length⟩
theorem QbV{s:Qd}{k:Nat}(h:Ql 1048576 s)(hk:k<=100000000000000):k<=kTp k s.topo/\kTp k s.topo<=kUp k s/\kUp k s<=kQu k s/\kQu k s<=kRu k s/\kRu k s<=kSt k s/\kQu k s<=1000000000000000/\kSt k s<=k+1200000000000:=by
 have h1:=h.par;have h2:=h.nod;have h3:=h.up;have h4:=h.que;have h5:=h.run;have h6:=h.end'
 have h7:=QoK (k:=kQu k s) (j:=s.runs.length) h.rno h.run
 rw[Qjg]at h7
 unfold kSt kRu
 have e1:kTp k s.topo=k+1*s.topo.parents.length+4*s.topo.nodes.length:=rfl
 have e2:kUp k s=kTp k s.topo+1*s.up.length:=rfl
 have e3:kQu k s=kUp k s+11*s.queue.length:=rfl
 omega
theorem tsz:(Tryz.prog.info? 3).map (·.size)=some 1:=ti3.sized
theorem lnI{g:Nat->Int}{l:List Int}:(intE l).map List.length=(intE (JM g l.length)).map List.length:=(JN (f:=(fun(x:Int)=>([.n .i64 x]:List D))) (z:=1) (fun _=>rfl) (QF _ _)).symm
theorem lnN{g:Nat->X6}{l:List X6}:(Qz l).map List.length=(Qz (JM g l.length)).map List.length:=(JN (f:=(fun(n:X6)=>([.n .i64 n.leaf,.n .i64 n.cap.a,.n .i64 n.cap.b,.n .i64 n.cap.c]:List D))) (z:=4) (fun _=>rfl) (QF _ _)).symm
theorem lnB{g:Nat->Bool}{l:List Bool}:(Qq l).map List.length=(Qq (JM g l.length)).map List.length:=(JN (f:=(fun(b:Bool)=>([.b b]:List D))) (z:=1) (fun _=>rfl) (QF _ _)).symm
theorem lnJ{g:Nat->Job}{l:List Job}:(jobE l).map List.length=(jobE (JM g l.length)).map List.length:=(JN (f:=jobD) (z:=11) (fun _=>rfl) (QF _ _)).symm
theorem lnR{k:Nat}{l:List Run}:(runE l).map List.length=(runE (mRs k l)).map List.length:=(JN (f:=runD) (z:=13) (fun _=>rfl) (VY _ _)).symm
theorem lnE{g:Nat->Qb5}{l:List Qb5}:(endE l).map List.length=(endE (JM g l.length)).map List.length:=(JN (f:=(fun(e:Qb5)=>([.n .i64 e.id,.n .i64 e.at',.n .i64 e.why]:List D))) (z:=3) (fun _=>rfl) (QF _ _)).symm
theorem Ql8{t:QW}{k:Nat}(h1:t.parents.length<=1048576)(h2:t.nodes.length<=1048576)(hk:k<=1000000000000000):MCalls Tryz.prog 96 [.agg [.row 1000000,.row 1000001],zI k] [(1000000,.row 3 (intE t.parents) true),(1000001,.row 225 (Qz t.nodes) true)] (fun(_:Unit)=>True) (fun _=>[zI ((kTp k t:Nat):Int)]) (fun _=>[(1000000,.row 3 (intE (mTp k t).parents) true),(1000001,.row 225 (Qz (mTp k t).nodes) true)]) (fun _=>[]):=by
 refine Ji tt func96 rfl rfl rfl ⟨.inl rfl,.inl rfl,trivial⟩ (fun _ _=>⟨⟨⟨rfl,rfl,lnI⟩,⟨rfl,rfl,lnN⟩,trivial⟩,.inl rfl,.inl rfl,trivial⟩) (fun w0 Z O=>?_)
 repeat'(first|(refine zhm fun hb=>?_;try exact zab)|refine zUto ?_|refine zg2 ?_ ?_|(refine km [1000000] (Qex (l:=t.parents) (k:=k) tsz (by omega) (by omega)) rfl rfl (fun i hi=>?_);try dsimp only at hi)|(refine km [1000001] (Qip (l:=t.nodes) (k:=k+1*t.parents.length) (by omega) (by omega)) rfl rfl (fun i hi=>?_);try dsimp only at hi)|intro _|fail)
 exact zm () [] (by exact trivial) zae zae zae
theorem V1{s:Qd}{k:Nat}(h:Ql 1048576 s)(hk:k<=100000000000000):MCalls Tryz.prog 34 [ZL s 1000000 1000001 1000002 1000003 1000004 1000005,zI k] [(1000000,.row 3 (intE s.topo.parents) true),(1000001,.row 225 (Qz s.topo.nodes) true),(1000002,.row 4 (Qq s.up) true),(1000003,.row 72 (jobE s.queue) true),(1000004,.row 170 (runE s.runs) true),(1000005,.row 172 (endE s.ends) true)]
  (fun(_:Unit)=>True) (fun _=>[zI ((kSt k s:Nat):Int)]) (fun _=>[(1000000,.row 3 (intE (mSt k s).topo.parents) true),(1000001,.row 225 (Qz (mSt k s).topo.nodes) true),(1000002,.row 4 (Qq (mSt k s).up) true),(1000003,.row 72 (jobE (mSt k s).queue) true),(1000004,.row 170 (runE (mSt k s).runs) true),(1000005,.row 172 (endE (mSt k s).ends) true)]) (fun _=>[]):=by
 refine Ji tt func34 rfl rfl rfl ⟨.inl rfl,.inl rfl,.inl rfl,.inl rfl,.inl rfl,.inl rfl,trivial⟩ (fun _ _=>⟨⟨⟨rfl,rfl,lnI⟩,⟨rfl,rfl,lnN⟩,⟨rfl,rfl,lnB⟩,⟨rfl,rfl,lnJ⟩,⟨rfl,rfl,lnR⟩,⟨rfl,rfl,lnE⟩,trivial⟩,.inl rfl,.inl rfl,.inl rfl,.inl rfl,.inl rfl,.inl rfl,trivial⟩) (fun w0 Z O=>?_)
 have hb:=QbV h hk
 have h1:=h.par;have h2:=h.nod;have h3:=h.up;have h4:=h.que;have h5:=h.run;have h6:=h.end'
 repeat'(first|(refine zhm fun hb=>?_;try exact zab)|refine zUto ?_|refine zg2 ?_ ?_|(refine km [1000000,1000001] (Ql8 (t:=s.topo) (k:=k) h1 h2 (by omega)) rfl rfl (fun i hi=>?_);try dsimp only at hi)|(refine km [1000002] (Qjn (l:=s.up) (k:=kTp k s.topo) (by omega) (by omega)) rfl rfl (fun i hi=>?_);try dsimp only at hi)|(refine km [1000003] (Qlt (l:=s.queue) (k:=kUp k s) (by omega) (by omega)) rfl rfl (fun i hi=>?_);try dsimp only at hi)|(refine km [1000004] (Qlp (l:=s.runs) (k:=kQu k s) h5 h.rno (by omega)) rfl rfl (fun i hi=>?_);try dsimp only at hi)|(refine km [1000005] (Qlz (l:=s.ends) (k:=kRu k s) (by omega) (by omega)) rfl rfl (fun i hi=>?_);try dsimp only at hi)|intro _|fail)
 exact zm () [] (by exact trivial) zae zae zae
theorem QlI{t:QW}{k:Nat}(h1:t.parents.length<=1048576)(h2:t.nodes.length<=1048576)(hk:k<=1000000000000000):zAc 151 [Yy (mTp k t),zI k] [zI ((kTp k t:Nat):Int)] []:=by
 refine zAC func151 fun w0 Z=>?_
 repeat'(first|(refine zhm fun hb=>?_;try exact zab)|refine zUto ?_|refine zg2 ?_ ?_|refine kc (Qe0 (n:=t.parents.length) (k:=k) (by omega) (by omega)) rfl rfl ?_|refine kc (Qiw (n:=t.nodes.length) (k:=k+1*t.parents.length) (by omega) (by omega)) rfl rfl ?_|intro _|fail)
 exact zrr
theorem Qd1{s:Qd}{k:Nat}(h:Ql 1048576 s)(hk:k<=100000000000000):zAc 101 [Qx (mSt k s),zI k] [zI ((kSt k s:Nat):Int)] []:=by
 refine zAC func101 fun w0 Z=>?_
 have hb:=QbV h hk
 have h1:=h.par;have h2:=h.nod;have h3:=h.up;have h4:=h.que;have h5:=h.run;have h6:=h.end'
 repeat'(first|(refine zhm fun hb=>?_;try exact zab)|refine zUto ?_|refine zg2 ?_ ?_|refine kc (QlI (t:=s.topo) (k:=k) h1 h2 (by omega)) rfl rfl ?_|refine kc (QiS (n:=s.up.length) (k:=kTp k s.topo) (by omega) (by omega)) rfl rfl ?_|refine kc (QlL (n:=s.queue.length) (k:=kUp k s) (by omega) (by omega)) rfl rfl ?_|refine kc (Qlo (l:=s.runs) (k:=kQu k s) h5 h.rno (by omega)) rfl rfl ?_|refine kc (Ql7 (n:=s.ends.length) (k:=kRu k s) (by omega) (by omega)) rfl rfl ?_|intro _|fail)
 exact zrr
end
end Go.Proofs.YtihgfennoalocaaGreat
