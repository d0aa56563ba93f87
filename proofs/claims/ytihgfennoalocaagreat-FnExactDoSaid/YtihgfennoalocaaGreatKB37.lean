/-
  Parts: both.
-/
import Derived.Test.YtihgfennoalocaaGreatKB7
import Derived.Test.YtihgfennoalocaaGreatKB8
import Derived.Test.YtihgfennoalocaaGreatKB36
import Derived.Test.YtihgfennoalocaaGreatKB35
set_option maxRecDepth 100000
set_option maxHeartbeats 16000000
namespace Go.Proofs.YtihgfennoalocaaGreat
open Go Go.RowKit Tryz
section
attribute [local irreducible] AWp QJ OpOk ACalls ChA QsOk MCalls EnC PY
def pst(s:List UInt8)(q:Int):Nat->List (List UInt8)×Nat
 | 0=>([],0)
 | i+1=>if((s.getD i 0).toNat:Int)=q then((pst s q i).1++[(s.take i).drop (pst s q i).2],i+1)else pst s q i
def parts(s:List UInt8)(q:Int):List (List UInt8):=(pst s q s.length).1++[(s.take s.length).drop (pst s q s.length).2]
theorem QkL(s:List UInt8)(q:Int):∀(i:Nat),(pst s q i).2<=i/\(pst s q i).1.length<=i
 | 0=>⟨Xam _,Xam _⟩
 | i+1=>by
  have:=QkL s q i
  simp only[pst]
  split
  ·simp;omega
  ·omega
theorem QbG{s:List UInt8}{q:Int}{i:Nat}(h:((s.getD i 0).toNat:Int)=q):pst s q (i+1)=((pst s q i).1++[(s.take i).drop (pst s q i).2],i+1):=if_pos h
theorem QeN{s:List UInt8}{q:Int}{i:Nat}(h:¬((s.getD i 0).toNat:Int)=q):pst s q (i+1)=pst s q i:=if_neg h
theorem VC(l:List (List UInt8))(x:List UInt8):strE l++[[.s x]]=strE (l++[x]):=by simp[strE]
theorem Qfi{s:List UInt8}{q:Int}(h:s.length<=1000000000):zAc 114 [.d (.s s),.d (.n .u8 q)] [.row 0] [(0,.row 9 (strE (parts s q)) true)]:=by
 refine zAC func114 fun w0 Z=>?_
 repeat'(first|(refine zhm fun hb=>?_;try exact zab)|refine zUtp ?_|refine zg2 ?_ ?_|intro _|fail)
 refine Qa (fun(i:Nat)=>⟨35,[(0,.d (.s s)),(1,.d (.n .u8 q)),(5,.row 8),(6,zI (pst s q i).2),(7,zI i)],[(8,.row 9 (strE (pst s q i).1) true)]⟩) (fun i=>i<=s.length) (fun i=>s.length-i) 0 (by omega) ?_ ?_
 ·refine⟨rfl,?_,?_,rfl⟩
  repeat'(first|exact ze3|refine ze2 ?_ ?_|refine ze4 ?_|exact ze5|fail)
  all_goals exact zp rfl
 ·intro i hi
  have hp:=QkL s q i
  repeat'(first|(refine zhm fun hb=>?_;try exact zab)|refine zUtp ?_|refine zg2 ?_ ?_|intro _|fail)
  ·refine⟨i+1,by omega,by omega,?_⟩
   refine⟨rfl,?_,?_,rfl⟩
   repeat'(first|exact ze3|refine ze2 ?_ ?_|refine ze4 ?_|exact ze5|fail)
   ·exact zp (by rw[QbG hb])
   ·exact zp (by rw[QbG hb,<-VC])
  ·refine⟨i+1,by omega,by omega,?_⟩
   refine⟨rfl,?_,?_,rfl⟩
   repeat'(first|exact ze3|refine ze2 ?_ ?_|refine ze4 ?_|exact ze5|fail)
   ·exact zp (by rw[QeN hb])
   ·exact zp (by rw[QeN hb])
  ·refine zr [8] ?_ ?_
   repeat'(first|exact ze3|refine ze2 ?_ ?_|refine ze4 ?_|exact ze5|fail)
   obtain rfl:i=s.length:=by omega
   exact zp (VC _ _)
theorem Qi6{s:List UInt8}{q:Int}(h:s.length<=1000000000):zAc 110 [.d (.s s),.d (.n .u8 q)] [.row 0] [(0,.row 9 (strE (parts s q)) true)]:=by
 refine zAC func110 fun w0 Z=>?_
 repeat'(first|(refine zhm fun hb=>?_;try exact zab)|refine zUtp ?_|refine zg2 ?_ ?_|intro _|fail)
 refine Qa (fun(i:Nat)=>⟨35,[(0,.d (.s s)),(1,.d (.n .u8 q)),(5,.row 8),(6,zI (pst s q i).2),(7,zI i)],[(8,.row 9 (strE (pst s q i).1) true)]⟩) (fun i=>i<=s.length) (fun i=>s.length-i) 0 (by omega) ?_ ?_
 ·refine⟨rfl,?_,?_,rfl⟩
  repeat'(first|exact ze3|refine ze2 ?_ ?_|refine ze4 ?_|exact ze5|fail)
  all_goals exact zp rfl
 ·intro i hi
  have hp:=QkL s q i
  repeat'(first|(refine zhm fun hb=>?_;try exact zab)|refine zUtp ?_|refine zg2 ?_ ?_|intro _|fail)
  ·refine⟨i+1,by omega,by omega,?_⟩
   refine⟨rfl,?_,?_,rfl⟩
   repeat'(first|exact ze3|refine ze2 ?_ ?_|refine ze4 ?_|exact ze5|fail)
   ·exact zp (by rw[QbG hb])
   ·exact zp (by rw[QbG hb,<-VC])
  ·refine⟨i+1,by omega,by omega,?_⟩
   refine⟨rfl,?_,?_,rfl⟩
   repeat'(first|exact ze3|refine ze2 ?_ ?_|refine ze4 ?_|exact ze5|fail)
   ·exact zp (by rw[QeN hb])
   ·exact zp (by rw[QeN hb])
  ·refine zr [8] ?_ ?_
   repeat'(first|exact ze3|refine ze2 ?_ ?_|refine ze4 ?_|exact ze5|fail)
   obtain rfl:i=s.length:=by omega
   exact zp (VC _ _)
def valI(s:List UInt8):Nat->Int
 | 0=>0
 | i+1=>10*valI s i+(((s.getD i 0).toNat:Int)-48)
def dig(s:List UInt8)(j:Nat):Prop:=48<=(s.getD j 0).toNat/\(s.getD j 0).toNat<=57
instance (s:List UInt8) (j:Nat):Decidable (dig s j):=by unfold dig;infer_instance
def Jb(s:List UInt8):Int×Bool:=if 1<=s.length/\s.length<=10/\(∀j,j<s.length->dig s j)/\Jn (valI s s.length)=s then(valI s s.length,true) else(0,false)
theorem Qn1{s:List UInt8}:∀(i:Nat),i<=9->(∀j,j<i->dig s j)->0<=valI s i/\valI s i<10 ^ i
 | 0,_,_=>by simp[valI]
 | i+1,h,hd=>by
  have h1:=Qn1 i (by omega) (fun j hj=>hd j (by omega))
  have h2:=hd i (by omega)
  unfold dig at h2
  have e:(10:Int) ^ (i+1)=10*10 ^ i:=by rw[Int.pow_succ];omega
  rw[e]
  simp only[valI]
  omega
theorem Qr1{s:List UInt8}{i:Nat}(h:i<=9)(hd:∀j,j<i->dig s j):0<=valI s i/\valI s i<1000000000:=by
 have h1:=Qn1 i h hd
 have h2:(10:Int) ^ i<=10 ^ 9:=by
  have:=Nat.pow_le_pow_right (n:=10) (by omega) h
  exact_mod_cast this
 omega
theorem Y2{s:List UInt8}(h:¬(1<=s.length/\s.length<=10/\(∀j,j<s.length->dig s j)/\Jn (valI s s.length)=s)):Jb s=(0,false):=if_neg h
theorem X3{s:List UInt8}(h:1<=s.length/\s.length<=10/\(∀j,j<s.length->dig s j)/\Jn (valI s s.length)=s):Jb s=(valI s s.length,true):=if_pos h
theorem Qdi{s:List UInt8}:zAc 164 [.d (.s s)] [zI (Jb s).1,.d (.b (Jb s).2)] []:=by
 refine zAC func164 fun w0 Z=>?_
 by_cases hlen:1<=s.length/\s.length<=10
 ·repeat'(first|(refine zhm fun hb=>?_;try exact zab)|refine zUtp ?_|refine zg2 ?_ ?_|refine zqj QX ?_|intro _|fail)
  refine Qa (fun(i:Nat)=>⟨39,[(0,.d (.s s)),(4,zI (valI s i)),(5,zI (i:Int))],[]⟩) (fun i=>i<=s.length/\∀j,j<i->dig s j) (fun i=>s.length-i) 0 ⟨by omega,fun j hj=>absurd hj (by omega)⟩ ?_ ?_
  ·refine⟨rfl,?_,?_,rfl⟩
   repeat'(first|exact ze3|refine ze2 ?_ ?_|refine ze4 ?_|exact ze5|fail)
   all_goals exact zp rfl
  ·intro i hi
   obtain⟨hi,hd⟩:=hi
   have hb9:i<s.length->0<=valI s i/\valI s i<1000000000:=fun h=>Qr1 (by omega) hd
   repeat'(first|(refine zhm fun hb=>?_;try exact zab)|refine zUtp ?_|refine zg2 ?_ ?_|refine zqj QX ?_|refine zqj W9 ?_|intro _|fail)
   ·refine zr [] ?_ ?_
    repeat'(first|exact ze3|refine ze2 ?_ ?_|refine ze4 ?_|exact ze5|fail)
    all_goals
     refine zp ?_
     rw[Y2 (fun h=>by have:=h.2.2.1 i (by omega);unfold dig at this;omega)]
   ·refine zr [] ?_ ?_
    repeat'(first|exact ze3|refine ze2 ?_ ?_|refine ze4 ?_|exact ze5|fail)
    all_goals
     refine zp ?_
     rw[Y2 (fun h=>by have:=h.2.2.1 i (by omega);unfold dig at this;omega)]
   ·refine⟨i+1,⟨by omega,fun j hj=>?_⟩,by omega,?_⟩
    ·rcases XbQ.1 hj with h1|rfl
     ·exact hd j h1
     ·unfold dig;omega
    ·refine⟨rfl,?_,?_,rfl⟩
     repeat'(first|exact ze3|refine ze2 ?_ ?_|refine ze4 ?_|exact ze5|fail)
     all_goals
      refine zp ?_
      first|(simp only[valI];done)|(simp only[valI];omega)
   ·obtain rfl:i=s.length:=by omega
    refine zr [] ?_ ?_
    repeat'(first|exact ze3|refine ze2 ?_ ?_|refine ze4 ?_|exact ze5|fail)
    all_goals
     refine zp ?_
     rw[Y2 (fun h=>hb h.2.2.2)]
   ·obtain rfl:i=s.length:=by omega
    refine zr [] ?_ ?_
    repeat'(first|exact ze3|refine ze2 ?_ ?_|refine ze4 ?_|exact ze5|fail)
    all_goals
     refine zp ?_
     rw[X3 ⟨hlen.1,hlen.2,hd,hb⟩]
 ·repeat'(first|(refine zhm fun hb=>?_;try exact zab)|refine zUtp ?_|refine zg2 ?_ ?_|refine zqj QX ?_|intro _|fail)
  all_goals
   refine zr [] ?_ ?_
   repeat'(first|exact ze3|refine ze2 ?_ ?_|refine ze4 ?_|exact ze5|fail)
   all_goals
    refine zp ?_
    rw[Y2 (fun h=>hlen ⟨h.1,h.2.1⟩)]
theorem Qhz{s:List UInt8}:zAc 158 [.d (.s s)] [zI (Jb s).1,.d (.b (Jb s).2)] []:=by
 refine zAC func158 fun w0 Z=>?_
 by_cases hlen:1<=s.length/\s.length<=10
 ·repeat'(first|(refine zhm fun hb=>?_;try exact zab)|refine zUtp ?_|refine zg2 ?_ ?_|intro _|fail)
  refine Qa (fun(i:Nat)=>⟨43,[(0,.d (.s s)),(4,zI (valI s i)),(5,zI (i:Int))],[]⟩) (fun i=>i<=s.length/\∀j,j<i->dig s j) (fun i=>s.length-i) 0 ⟨by omega,fun j hj=>absurd hj (by omega)⟩ ?_ ?_
  ·refine⟨rfl,?_,?_,rfl⟩
   repeat'(first|exact ze3|refine ze2 ?_ ?_|refine ze4 ?_|exact ze5|fail)
   all_goals exact zp rfl
  ·intro i hi
   obtain⟨hi,hd⟩:=hi
   have hb9:i<s.length->0<=valI s i/\valI s i<1000000000:=fun h=>Qr1 (by omega) hd
   repeat'(first|(refine zhm fun hb=>?_;try exact zab)|refine zUtp ?_|refine zg2 ?_ ?_|refine zqj VV ?_|intro _|fail)
   ·refine zr [] ?_ ?_
    repeat'(first|exact ze3|refine ze2 ?_ ?_|refine ze4 ?_|exact ze5|fail)
    all_goals
     refine zp ?_
     rw[Y2 (fun h=>by have:=h.2.2.1 i (by omega);unfold dig at this;omega)]
   ·refine zr [] ?_ ?_
    repeat'(first|exact ze3|refine ze2 ?_ ?_|refine ze4 ?_|exact ze5|fail)
    all_goals
     refine zp ?_
     rw[Y2 (fun h=>by have:=h.2.2.1 i (by omega);unfold dig at this;omega)]
   ·refine⟨i+1,⟨by omega,fun j hj=>?_⟩,by omega,?_⟩
    ·rcases XbQ.1 hj with h1|rfl
     ·exact hd j h1
     ·unfold dig;omega
    ·refine⟨rfl,?_,?_,rfl⟩
     repeat'(first|exact ze3|refine ze2 ?_ ?_|refine ze4 ?_|exact ze5|fail)
     all_goals
      refine zp ?_
      first|(simp only[valI];done)|(simp only[valI];omega)
   ·obtain rfl:i=s.length:=by omega
    refine zr [] ?_ ?_
    repeat'(first|exact ze3|refine ze2 ?_ ?_|refine ze4 ?_|exact ze5|fail)
    all_goals
     refine zp ?_
     rw[Y2 (fun h=>hb h.2.2.2)]
   ·obtain rfl:i=s.length:=by omega
    refine zr [] ?_ ?_
    repeat'(first|exact ze3|refine ze2 ?_ ?_|refine ze4 ?_|exact ze5|fail)
    all_goals
     refine zp ?_
     rw[X3 ⟨hlen.1,hlen.2,hd,hb⟩]
 ·repeat'(first|(refine zhm fun hb=>?_;try exact zab)|refine zUtp ?_|refine zg2 ?_ ?_|intro _|fail)
  all_goals
   refine zr [] ?_ ?_
   repeat'(first|exact ze3|refine ze2 ?_ ?_|refine ze4 ?_|exact ze5|fail)
   all_goals
    refine zp ?_
    rw[Y2 (fun h=>hlen ⟨h.1,h.2.1⟩)]
def YG(v:V3):List UInt8:=if Qh v=true then Jn v.a++[47]++Jn v.b++[47]++Jn v.c else[]
theorem Zc{v:V3}(h:Qh v=true):YG v=Jn v.a++[47]++Jn v.b++[47]++Jn v.c:=if_pos h
theorem Qbv{v:V3}(h:Qh v=false):YG v=[]:=if_neg (by simp[h])
theorem J6(v:V3):(YG v).length<=32:=by
 unfold YG
 have h1:=Qv v.a
 have h2:=Qv v.b
 have h3:=Qv v.c
 split
 ·simp;omega
 ·simp
theorem VR{v:V3}:zAc 214 [vecA v] [.d (.s (YG v))] []:=by
 refine zAC func214 fun w0 Z=>?_
 have h1:=Qv v.a
 have h2:=Qv v.b
 have h3:=Qv v.c
 repeat'(first|(refine zhm fun hb=>?_;try exact zab)|refine Qb2 ?_|(apply zch;exact zcg)|exact zhk|refine zg3 ?_ ?_|refine kc (Yh (v:=v)) rfl rfl ?_|refine zqd W9 ?_|refine kq (Yh (v:=v)) rfl rfl ?_|intro _|fail)
 ·refine zr [] ?_ ?_
  repeat'(first|exact ze3|refine ze2 ?_ ?_|refine ze4 ?_|exact ze5|fail)
  exact zp (Qbv hb).symm
 ·refine zr [] ?_ ?_
  repeat'(first|exact ze3|refine ze2 ?_ ?_|refine ze4 ?_|exact ze5|fail)
  refine zp ?_
  rw[Zc hb]
theorem Ws{v:V3}:zAc 189 [vecA v] [.d (.s (YG v))] []:=by
 refine zAC func189 fun w0 Z=>?_
 have h1:=Qv v.a
 have h2:=Qv v.b
 have h3:=Qv v.c
 repeat'(first|(refine zhm fun hb=>?_;try exact zab)|refine Qb2 ?_|(apply zch;exact zcg)|exact zhk|refine zg3 ?_ ?_|refine kc (JV (v:=v)) rfl rfl ?_|refine zqd VV ?_|refine kq (JV (v:=v)) rfl rfl ?_|intro _|fail)
 ·refine zr [] ?_ ?_
  repeat'(first|exact ze3|refine ze2 ?_ ?_|refine ze4 ?_|exact ze5|fail)
  exact zp (Qbv hb).symm
 ·refine zr [] ?_ ?_
  repeat'(first|exact ze3|refine ze2 ?_ ?_|refine ze4 ?_|exact ze5|fail)
  refine zp ?_
  rw[Zc hb]
def vec0:V3:=⟨0,0,0⟩
def tvV(s:List UInt8):V3:=⟨(Jb (nth (parts s 47) 0)).1,(Jb (nth (parts s 47) 1)).1,(Jb (nth (parts s 47) 2)).1⟩
def tvOk(s:List UInt8):Bool:=decide (((parts s 47).length:Int)=3)&&(Jb (nth (parts s 47) 0)).2&&(Jb (nth (parts s 47) 1)).2&&(Jb (nth (parts s 47) 2)).2&&Qh (tvV s)
def WA(s:List UInt8):V3×Bool:=if tvOk s=true then(tvV s,true) else(vec0,false)
theorem XN{s:List UInt8}(h:tvOk s=true):WA s=(tvV s,true):=if_pos h
theorem Qa7{s:List UInt8}(h:tvOk s=false):WA s=(vec0,false):=if_neg (by simp[h])
theorem QdJ{s:List UInt8}(h:s.length<=1000000000):zAc 163 [.d (.s s)] [vecA (WA s).1,.d (.b (WA s).2)] []:=by
 refine zAC func163 fun w0 Z=>?_
 repeat'(first|(refine zhm fun hb=>?_;try exact zab)|refine zUtp ?_|refine zg2 ?_ ?_|refine kc (Qfi (by omega)) rfl rfl ?_|refine zqj Qdi ?_|refine kc (Yh (v:=tvV s)) rfl rfl ?_|intro _|fail)
 all_goals
  refine zr [] ?_ ?_
  repeat'(first|exact ze3|refine ze2 ?_ ?_|refine ze4 ?_|exact ze5|fail)
  all_goals
   refine zp ?_
   first
    | (rw[Qa7 (by first|(simp only[tvOk, *];done)|(simp only[tvOk, *];rfl))];done)
    | (rw[Qa7 (by first|(simp only[tvOk, *];done)|(simp only[tvOk, *];rfl))];rfl)
    | (rw[XN (by first|(simp only[tvOk, *];done)|(simp only[tvOk, *];rfl))];done)
    | (rw[XN (by first|(simp only[tvOk, *];done)|(simp only[tvOk, *];rfl))];rfl)
def V7(s:List UInt8)(k i:Nat):Int:=if k<i then(Jb (nth (parts s 47) k)).1 else 0
def nums(s:List UInt8)(i:Nat):List Int:=[V7 s 0 i,V7 s 1 i,V7 s 2 i]
def tvS(s:List UInt8):V3:=⟨V7 s 0 (parts s 47).length,V7 s 1 (parts s 47).length,V7 s 2 (parts s 47).length⟩
def Xs(s:List UInt8):V3×Bool:=if YG (tvS s)=s then(tvS s,true) else(vec0,false)
theorem Qgr{s:List UInt8}{k i:Nat}(h:k≠i):V7 s k (i+1)=V7 s k i:=by
 unfold V7
 by_cases h1:k<i
 ·rw[if_pos h1,if_pos (by omega)]
 ·rw[if_neg h1,if_neg (by omega)]
theorem QpG{s:List UInt8}{i:Nat}(h:i<3):(intE (nums s i)).set i [.n .i64 (Jb (nth (parts s 47) i)).1]=intE (nums s (i+1)):=by
 match i,h with
 | 0,_=>simp[nums,intE,V7]
 | 1,_=>simp[nums,intE,V7]
 | 2,_=>simp[nums,intE,V7]
theorem Qqn{s:List UInt8}{i:Nat}(h:¬i<3):nums s (i+1)=nums s i:=by
 unfold nums
 rw[Qgr (by omega),Qgr (by omega),Qgr (by omega)]
theorem Qmo{s:List UInt8}(h:s.length<=1000000000):zAc 157 [.d (.s s)] [vecA (Xs s).1,.d (.b (Xs s).2)] []:=by
 refine zAC func157 fun w0 Z=>?_
 repeat'(first|(refine zhm fun hb=>?_;try exact zab)|refine Qe ?_|(apply zch;exact zcg)|exact zhk|refine zg3 ?_ ?_|refine kc (Qi6 (by omega)) rfl rfl ?_|refine kq (Qi6 (by omega)) rfl rfl ?_|intro _|fail)
 rename_i hplen
 refine Qa (fun(i:Nat)=>⟨44,[(0,.d (.s s)),(2,.ptr 2 0),(4,.row 8),(10,.row 10),(11,zI (parts s 47).length),(12,zI (i:Int))],[(2,.box 44 [zI 0,zI 0,zI 0]),(8,.row 3 (intE (nums s i)) true),(10,.row 9 (strE (parts s 47)) true)]⟩) (fun i=>i<=(parts s 47).length) (fun i=>(parts s 47).length-i) 0 (by omega) ?_ ?_
 ·refine⟨rfl,?_,?_,rfl⟩
  repeat'(first|exact ze3|refine ze2 ?_ ?_|refine ze4 ?_|exact ze5|fail)
  all_goals exact zp rfl
 ·intro i hi
  have hl3:(nums s i).length=3:=rfl
  repeat'(first|(refine zhm fun hb=>?_;try exact zab)|refine Qe ?_|(apply zch;exact zcg)|exact zhk|refine zg3 ?_ ?_|refine zqd Qhz ?_|refine kc (Ws (v:=⟨V7 s 0 i,V7 s 1 i,V7 s 2 i⟩)) rfl rfl ?_|refine kq (Ws (v:=⟨V7 s 0 i,V7 s 1 i,V7 s 2 i⟩)) rfl rfl ?_|intro _|fail)
  ·refine⟨i+1,by omega,by omega,?_⟩
   refine⟨rfl,?_,?_,rfl⟩
   repeat'(first|exact ze3|refine ze2 ?_ ?_|refine ze4 ?_|exact ze5|fail)
   exact zp (QpG (by omega))
  ·refine⟨i+1,by omega,by omega,?_⟩
   refine⟨rfl,?_,?_,rfl⟩
   repeat'(first|exact ze3|refine ze2 ?_ ?_|refine ze4 ?_|exact ze5|fail)
   exact zp (by rw[Qqn (by omega)])
  ·obtain rfl:i=(parts s 47).length:=by omega
   have hno:Xs s=(vec0,false):=if_neg hb
   rw[hno]
   refine zr [] ?_ ?_
   repeat'(first|exact ze3|refine ze2 ?_ ?_|refine ze4 ?_|exact ze5|fail)
   all_goals exact zp rfl
  ·obtain rfl:i=(parts s 47).length:=by omega
   have hyes:Xs s=(tvS s,true):=if_pos hb
   rw[hyes]
   refine zr [] ?_ ?_
   repeat'(first|exact ze3|refine ze2 ?_ ?_|refine ze4 ?_|exact ze5|fail)
   all_goals exact zp rfl
end
section

def split(q:Int):List UInt8->List (List UInt8)
 | []=>[[]]
 | b::s=>if(b.toNat:Int)=q then[]::split q s else match split q s with
  | h::t=>(b::h)::t
  | []=>[[b]]
theorem QaD(q:Int):∀(s:List UInt8),split q s≠[]
 | []=>by simp[split]
 | b::s=>by
  simp only[split]
  split
  ·simp
  ·split <;> simp
def Qae(q:Int)(acc:List UInt8)(s:List UInt8):List (List UInt8):=match split q s with
 | h::t=>(acc++h)::t
 | []=>[acc]
theorem Qmc{q:Int}{acc:List UInt8}{b:UInt8}{s:List UInt8}(h:(b.toNat:Int)=q):Qae q acc (b::s)=acc::Qae q [] s:=by
 unfold Qae
 simp only[split,if_pos h]
 cases hs:split q s with
 | nil=>exact absurd hs (QaD q s)
 | cons a l=>simp
theorem QmV{q:Int}{acc:List UInt8}{b:UInt8}{s:List UInt8}(h:¬(b.toNat:Int)=q):Qae q acc (b::s)=Qae q (acc++[b]) s:=by
 unfold Qae
 simp only[split,if_neg h]
 cases hs:split q s with
 | nil=>exact absurd hs (QaD q s)
 | cons a l=>simp
theorem Qe6(s:List UInt8)(q:Int):∀(k i:Nat),i+k=s.length->parts s q=(pst s q i).1++Qae q ((s.take i).drop (pst s q i).2) (s.drop i)
 | 0,i,h=>by
  have:i=s.length:=by omega
  subst this
  simp[parts,Qae,split]
 | k+1,i,h=>by
  have hlt:i<s.length:=by omega
  have ih:=Qe6 s q k (i+1) (by omega)
  have hd:s.drop i=s[i]::s.drop (i+1):=Xa4 hlt
  have hg:s.getD i 0=s[i]:=by rw[List.getD_eq_getElem?_getD,List.getElem?_eq_getElem hlt];rfl
  have hle:=(QkL s q i).1
  rw[ih,hd]
  by_cases hq:((s.getD i 0).toNat:Int)=q
  ·rw[QbG hq,Qmc (by rw[<-hg];exact hq)]
   have e:(s.take (i+1)).drop (i+1)=[]:=Xa7 (by simp;omega)
   rw[e,Xaq]
   rfl
  ·rw[QeN hq,QmV (by rw[<-hg];exact hq)]
   have e:(s.take (i+1)).drop (pst s q i).2=(s.take i).drop (pst s q i).2++[s[i]]:=by
    rw[XaB hlt,XbG (by simp;omega)]
   rw[e]
theorem QdF(s:List UInt8)(q:Int):parts s q=split q s:=by
 rw[Qe6 s q s.length 0 (by omega)]
 simp only[pst,XbN,List.drop_nil,XbM,Xa5,Qae]
 cases hs:split q s with
 | nil=>exact absurd hs (QaD q s)
 | cons a l=>simp
theorem QeW{q:Int}:∀{x:List UInt8},(∀b∈x,(b.toNat:Int)≠q)->split q x=[x]
 | [],_=>rfl
 | b::x,h=>by
  simp only[split,if_neg (h b Xaa),QeW fun c hc=>h c (Xae _ hc)]
theorem QcQ{q:Int}{c:UInt8}(hc:(c.toNat:Int)=q){y:List UInt8}:∀{x:List UInt8},(∀b∈x,(b.toNat:Int)≠q)->split q (x++c::y)=x::split q y
 | [],_=>by simp only[Xa5,split,if_pos hc]
 | b::x,h=>by
  simp only[Xbz,split,if_neg (h b Xaa),QcQ hc fun d hd=>h d (Xae _ hd)]
def Qmf(c:UInt8):List (List UInt8)->List UInt8
 | []=>[]
 | [x]=>x
 | x::y::l=>x++c::Qmf c (y::l)
theorem Qfc{c:UInt8}:∀(s:List UInt8),Qmf c (split (c.toNat:Int) s)=s
 | []=>rfl
 | b::s=>by
  have ih:=Qfc (c:=c) s
  simp only[split]
  split
  ·rename_i h
   have hbc:b=c:=by
    apply UInt8.toNat_inj.1
    omega
   cases hs:split (c.toNat:Int) s with
   | nil=>exact absurd hs (QaD _ s)
   | cons a l=>
    rw[hs]at ih
    simp only[Qmf,Xa5,ih,hbc]
  ·cases hs:split (c.toNat:Int) s with
   | nil=>exact absurd hs (QaD _ s)
   | cons a l=>
    rw[hs]at ih
    cases l with
    | nil=>simp only[Qmf]at ih ⊢;rw[ih]
    | cons x l=>simp only[Qmf,Xbz]at ih ⊢;rw[ih]

theorem QeX{d:Nat}(h:d<10):(UInt8.ofNat (48+d)).toNat=48+d:=by simp;omega
theorem Qaq:∀(k n:Nat),n<10 ^ (k+1)->∀b∈numT n,48<=b.toNat/\b.toNat<=57
 | 0,n,h,b,hb=>by
  rw[WZ (by omega),XaM]at hb
  subst hb
  rw[QeX (by omega)];omega
 | k+1,n,h,b,hb=>by
  by_cases h1:n<10
  ·rw[WZ h1,XaM]at hb
   subst hb
   rw[QeX (by omega)];omega
  ·rw[Zx h1,Xag,XaM]at hb
   rcases hb with hb|rfl
   ·exact Qaq k (n / 10) (by rw[Nat.pow_succ]at h;omega) b hb
   ·rw[QeX (by omega)];omega
theorem Qqt(n:Nat):0<(numT n).length:=by
 by_cases h1:n<10
 ·rw[WZ h1];simp
 ·rw[Zx h1];simp
theorem QjK{s t:List UInt8}:∀(i:Nat),i<=s.length->valI (s++t) i=valI s i
 | 0,_=>rfl
 | i+1,h=>by
  have e:(s++t).getD i 0=s.getD i 0:=by
   rw[List.getD_eq_getElem?_getD,List.getD_eq_getElem?_getD,List.getElem?_append_left (by omega)]
  simp only[valI,QjK (s:=s) (t:=t) i (by omega),e]
theorem QhF:∀(k n:Nat),n<10 ^ (k+1)->valI (numT n) (numT n).length=n
 | 0,n,h=>by
  rw[WZ (by omega)]
  simp only[XaG,valI,XbL,QeX (show n<10 by omega)]
  omega
 | k+1,n,h=>by
  by_cases h1:n<10
  ·rw[WZ h1]
   simp only[XaG,valI,XbL,QeX (show n<10 by omega)]
   omega
  ·have ih:=QhF k (n / 10) (by rw[Nat.pow_succ]at h;omega)
   rw[Zx h1,Xac,XaG]
   have e:(numT (n / 10)++[UInt8.ofNat (48+n % 10)]).getD (numT (n / 10)).length 0=UInt8.ofNat (48+n % 10):=by
    rw[List.getD_eq_getElem?_getD,List.getElem?_append_right (Xam _)]
    simp
   simp only[valI,QjK (s:=numT (n / 10)) (t:=[UInt8.ofNat (48+n % 10)]) _ (Xam _),ih,e,QeX (show n % 10<10 by omega)]
   omega
theorem V0{x:Int}(h:0<=x/\x<=1000000000):Jb (Jn x)=(x,true):=by
 have hn:x.toNat<10 ^ 10:=by omega
 rw[Xq h]
 have hv:=QhF 9 x.toNat hn
 have hx:((x.toNat:Nat):Int)=x:=by omega
 rw[hx]at hv
 have hd:∀j,j<(numT x.toNat).length->dig (numT x.toNat) j:=fun j hj=>by
  unfold dig
  have:=Qaq 9 x.toNat hn ((numT x.toNat)[j]) (Xbf hj)
  rw[List.getD_eq_getElem?_getD,List.getElem?_eq_getElem hj]
  exact this
 have hb:Jn (valI (numT x.toNat) (numT x.toNat).length)=numT x.toNat:=by rw[hv,Xq h]
 rw[X3 ⟨Qqt _,Qao 9 _ hn,hd,hb⟩,hv]
theorem Zy{s:List UInt8}(h:(Jb s).2=true):Jn (Jb s).1=s:=by
 unfold Jb at h ⊢
 split
 ·rename_i h1;exact h1.2.2.2
 ·rename_i h1;rw[if_neg h1]at h;cases h

theorem QmK{v:V3}(h:Qh v=true):split 47 (YG v)=[Jn v.a,Jn v.b,Jn v.c]:=by
 have hi:∀{x:Int},inB x 0 1000000=true->∀b∈Jn x,(b.toNat:Int)≠47:=fun {x} hx b hb=>by
  rw[Yr]at hx
  rw[Xq (by omega)]at hb
  have:=Qaq 9 x.toNat (by omega) b hb
  omega
 have h2:=h
 unfold Qh at h2
 rw[Xaf,Xaf]at h2
 rw[Zc h]
 have e:Jn v.a++[47]++Jn v.b++[47]++Jn v.c=Jn v.a++(47:UInt8)::(Jn v.b++(47:UInt8)::Jn v.c):=by simp
 rw[e,QcQ (c:=47) (by decide) (hi h2.1.1),QcQ (c:=47) (by decide) (hi h2.1.2),QeW (hi h2.2)]
theorem Qsy{v:V3}(h:Qh v=true):(0<=v.a/\v.a<=1000000000)/\(0<=v.b/\v.b<=1000000000)/\(0<=v.c/\v.c<=1000000000):=by
 unfold Qh at h
 rw[Xaf,Xaf,Yr,Yr,Yr]at h
 omega
theorem Qoe(s:List UInt8)(h:(parts s 47).length=3):tvS s=tvV s:=by
 unfold tvS tvV V7
 rw[h]
 rfl
theorem Qib(s:List UInt8):Xs s=WA s:=by
 unfold Xs
 split
 ·rename_i h
  have hok:Qh (tvS s)=true:=by
   cases hb:Qh (tvS s) with
   | true=>rfl
   | false=>
    rw[Qbv hb]at h
    subst h
    revert hb
    decide
  have hp:parts s 47=[Jn (tvS s).a,Jn (tvS s).b,Jn (tvS s).c]:=by
   have hs:=QmK hok
   rw[h]at hs
   rw[QdF]
   exact hs
  obtain⟨h1,h2,h3⟩:=Qsy hok
  have e:tvS s=tvV s:=Qoe s (by rw[hp];rfl)
  rw[XN,<-e]
  unfold tvOk
  rw[<-e,hok,hp]
  simp only[nth,XbL,Xcb,V0 h1,V0 h2,V0 h3]
  rfl
 ·rename_i h
  cases hb:tvOk s with
  | false=>rw[Qa7 hb]
  | true=>
   exfalso
   apply h
   unfold tvOk at hb
   simp only[Xaf,decide_eq_true_eq]at hb
   obtain⟨⟨⟨⟨hb0,hb1⟩,hb2⟩,hb3⟩,hb4⟩:=hb
   have h3:(parts s 47).length=3:=by omega
   rw[Qoe s h3,Zc hb4]
   match hp:parts s 47,h3 with
   | [x,y,z],_=>
    have e1:nth (parts s 47) 0=x:=by rw[hp];rfl
    have e2:nth (parts s 47) 1=y:=by rw[hp];rfl
    have e3:nth (parts s 47) 2=z:=by rw[hp];rfl
    unfold tvV
    simp only
    rw[Zy hb1,Zy hb2,Zy hb3,e1,e2,e3]
    have hj:=Qfc (c:=47) s
    have:split ((47:UInt8).toNat:Int) s=[x,y,z]:=by rw[<-hp,QdF];rfl
    rw[this]at hj
    simpa [Qmf] using hj
end
section
attribute [local irreducible] AWp QJ OpOk ACalls ChA QsOk MCalls EnC PY
theorem Qrf{x lo hi:Int}:zAc 127 [zI x,zI lo,zI hi] [.d (.b (inB x lo hi))] []:=by
 refine zAC func127 fun w0 Z=>?_
 repeat'(first|(refine zhm fun hb=>?_;try exact zab)|refine zUto ?_|refine zg2 ?_ ?_|intro _|fail)
 all_goals
  refine zr [] ?_ ?_
  repeat'(first|exact ze3|refine ze2 ?_ ?_|refine ze4 ?_|exact ze5|fail)
  refine zp ?_
  simp[inB, *]
def YK(s:List UInt8):Bool:=decide (1<=s.length)&&decide (s.length<=200)&&s.all fun b=>b.toNat != 10
theorem Qkw{s:List UInt8}{i:Nat}(hi:i<s.length)(h:((s.getD i 0).toNat:Int)=10):YK s=false:=by
 unfold YK
 have:(s.all fun b=>b.toNat != 10)=false:=by
  rw[List.all_eq_false]
  refine⟨s[i],Xbf hi,?_⟩
  rw[List.getD_eq_getElem?_getD,List.getElem?_eq_getElem hi]at h
  simp only[XaP]at h
  simp;omega
 rw[this,Xci]
theorem Qh1{s:List UInt8}(h:∀j,j<s.length->((s.getD j 0).toNat:Int)≠10):(s.all fun b=>b.toNat != 10)=true:=by
 rw[XaD]
 intro b hb
 obtain⟨j,hj,rfl⟩:=Xba hb
 have:=h j hj
 rw[List.getD_eq_getElem?_getD,List.getElem?_eq_getElem hj]at this
 simp only[XaP]at this
 simp;omega
theorem QkU{s:List UInt8}{q:Int}:∀(i:Nat),(pst s q i).1=[]↔∀j,j<i->((s.getD j 0).toNat:Int)≠q
 | 0=>⟨fun _ j hj=>absurd hj (by omega),fun _=>rfl⟩
 | i+1=>by
  by_cases h:((s.getD i 0).toNat:Int)=q
  ·rw[QbG h]
   exact⟨fun e=>by simp at e,fun hh=>absurd h (hh i (by omega))⟩
  ·rw[QeN h,QkU i]
   refine⟨fun hh j hj=>?_,fun hh j hj=>hh j (by omega)⟩
   rcases XbQ.1 hj with h1|rfl
   ·exact hh j h1
   ·exact h
theorem Qpf(s:List UInt8):((parts s 10).length=1)↔(s.all fun b=>b.toNat != 10)=true:=by
 unfold parts
 rw[Xac,XaG]
 have h1:(pst s 10 s.length).1.length+1=1↔(pst s 10 s.length).1=[]:=by
  rw[<-Xbi];omega
 rw[h1,QkU]
 refine⟨fun h=>Qh1 h,fun h j hj e=>?_⟩
 have:=Qkw hj e
 rw[XaD]at h
 have h2:=h s[j] (Xbf hj)
 rw[List.getD_eq_getElem?_getD,List.getElem?_eq_getElem hj]at e
 simp only[XaP]at e
 simp at h2;omega
theorem QaZ{s:List UInt8}(h:s.length<=1000000000):zAc 129 [.d (.s s)] [.d (.b (YK s))] []:=by
 refine zAC func129 fun w0 Z=>?_
 repeat'(first|(refine zhm fun hb=>?_;try exact zab)|refine zUtp ?_|refine zg2 ?_ ?_|refine zqj Qrf ?_|refine kc (Qfi (by omega)) rfl rfl ?_|intro _|fail)
 ·refine zr [] ?_ ?_
  repeat'(first|exact ze3|refine ze2 ?_ ?_|refine ze4 ?_|exact ze5|fail)
  refine zp ?_
  have h1:=Qpf s
  have e1:decide (1<=s.length)=true:=decide_eq_true (by omega)
  have e2:decide (s.length<=200)=true:=decide_eq_true (by omega)
  rw[YK,e1,e2,Xbx,Xbx,Xan,<-h1,beq_iff_eq]
  omega
 ·refine zr [] ?_ ?_
  repeat'(first|exact ze3|refine ze2 ?_ ?_|refine ze4 ?_|exact ze5|fail)
  refine zp ?_
  have e1:(decide (1<=s.length)&&decide (s.length<=200))=false:=by
   rw[Bool.and_eq_false_iff,decide_eq_false_iff_not,decide_eq_false_iff_not]
   omega
  rw[YK,e1,Xb7]
theorem VU{s:List UInt8}(h:s.length<=1000000000):zAc 178 [.d (.s s)] [.d (.b (YK s))] []:=by
 refine zAC func178 fun w0 Z=>?_
 repeat'(first|(refine zhm fun hb=>?_;try exact zab)|refine zUtp ?_|refine zg2 ?_ ?_|intro _|fail)
 refine Qa (fun(i:Nat)=>⟨22,[(0,.d (.s s)),(3,zI i)],[]⟩) (fun i=>i<=s.length/\∀j,j<i->((s.getD j 0).toNat:Int)≠10) (fun i=>s.length-i) 0 ⟨by omega,fun j hj=>absurd hj (by omega)⟩ ?_ ?_
 ·refine⟨rfl,?_,?_,rfl⟩
  repeat'(first|exact ze3|refine ze2 ?_ ?_|refine ze4 ?_|exact ze5|fail)
 ·intro i ⟨hi,hj⟩
  repeat'(first|(refine zhm fun hb=>?_;try exact zab)|refine zUtp ?_|refine zg2 ?_ ?_|intro _|fail)
  ·refine zr [] ?_ ?_
   repeat'(first|exact ze3|refine ze2 ?_ ?_|refine ze4 ?_|exact ze5|fail)
   exact zp (Qkw (by omega) hb).symm
  ·refine⟨i+1,⟨by omega,fun j hj'=>?_⟩,by omega,?_⟩
   ·rcases XbQ.1 hj' with h1|rfl
    ·exact hj j h1
    ·exact hb
   ·refine⟨rfl,?_,?_,rfl⟩
    repeat'(first|exact ze3|refine ze2 ?_ ?_|refine ze4 ?_|exact ze5|fail)
  ·obtain rfl:i=s.length:=by omega
   refine zr [] ?_ ?_
   repeat'(first|exact ze3|refine ze2 ?_ ?_|refine ze4 ?_|exact ze5|fail)
   refine zp ?_
   rw[YK,Qh1 hj,Bool.and_true]
   have e1:decide (1<=s.length)=true:=decide_eq_true (by omega)
   rw[e1,Xbx]
   exact decide_eq_decide.2 (by omega)
  ·obtain rfl:i=s.length:=by omega
   refine zr [] ?_ ?_
   repeat'(first|exact ze3|refine ze2 ?_ ?_|refine ze4 ?_|exact ze5|fail)
   refine zp ?_
   rw[YK]
   have e1:decide (1<=s.length)=false:=decide_eq_false (by omega)
   rw[e1,Xb7,Xb7]
end
end Go.Proofs.YtihgfennoalocaaGreat
