/-
  Parts: both.
-/
import Derived.Test.YtkdniahincpmaaaGreatQB31
set_option maxRecDepth 100000
set_option maxHeartbeats 16000000
namespace Go.Proofs.YtkdniahincpmaaaGreat
open Go Go.RowKit Tryz
section
attribute [local irreducible] AWp QM OpOk ACalls ChA QsOk MCalls EnC PY
def pst(s:List UInt8)(q:Int):Nat->List (List UInt8)×Nat
 | 0=>([],0)
 | i+1=>if((s.getD i 0).toNat:Int)=q then((pst s q i).1++[(s.take i).drop (pst s q i).2],i+1)else pst s q i
def parts(s:List UInt8)(q:Int):List (List UInt8):=(pst s q s.length).1++[(s.take s.length).drop (pst s q s.length).2]
theorem Qmb(s:List UInt8)(q:Int):∀(i:Nat),(pst s q i).2<=i/\(pst s q i).1.length<=i
 | 0=>⟨Xaj _,Xaj _⟩
 | i+1=>by
  have:=Qmb s q i
  simp only[pst]
  split
  ·simp;omega
  ·omega
theorem Qb5{s:List UInt8}{q:Int}{i:Nat}(h:((s.getD i 0).toNat:Int)=q):pst s q (i+1)=((pst s q i).1++[(s.take i).drop (pst s q i).2],i+1):=if_pos h
theorem Qgg{s:List UInt8}{q:Int}{i:Nat}(h:¬((s.getD i 0).toNat:Int)=q):pst s q (i+1)=pst s q i:=if_neg h
theorem ZA(l:List (List UInt8))(x:List UInt8):strE l++[[.s x]]=strE (l++[x]):=by simp[strE]
theorem Qhg{s:List UInt8}{q:Int}(h:s.length<=1000000000):zAc 190 [.d (.s s),.d (.n .u8 q)] [.row 0] [(0,.row 9 (strE (parts s q)) true)]:=by
 refine zAC func190 fun w0 Z=>?_
 repeat'(first|(refine zhm fun hb=>?_;try exact zab)|refine zUtp ?_|refine zg2 ?_ ?_|intro _)
 refine Qa (fun(i:Nat)=>⟨35,[(0,.d (.s s)),(1,.d (.n .u8 q)),(5,.row 8),(6,zI (pst s q i).2),(7,zI i)],[(8,.row 9 (strE (pst s q i).1) true)]⟩) (fun i=>i<=s.length) (fun i=>s.length-i) 0 (by omega) ?_ ?_
 ·refine⟨rfl,?_,?_,rfl⟩
  repeat'(first|exact ze3|refine ze2 ?_ ?_|refine ze4 ?_|exact ze5|fail)
  all_goals exact zp rfl
 ·intro i hi
  have hp:=Qmb s q i
  repeat'(first|(refine zhm fun hb=>?_;try exact zab)|refine zUtp ?_|refine zg2 ?_ ?_|intro _)
  ·refine⟨i+1,by omega,by omega,?_⟩
   refine⟨rfl,?_,?_,rfl⟩
   repeat'(first|exact ze3|refine ze2 ?_ ?_|refine ze4 ?_|exact ze5|fail)
   ·exact zp (by rw[Qb5 hb])
   ·exact zp (by rw[Qb5 hb,<-ZA])
  ·refine⟨i+1,by omega,by omega,?_⟩
   refine⟨rfl,?_,?_,rfl⟩
   repeat'(first|exact ze3|refine ze2 ?_ ?_|refine ze4 ?_|exact ze5|fail)
   ·exact zp (by rw[Qgg hb])
   ·exact zp (by rw[Qgg hb])
  ·refine zr [8] ?_ ?_
   repeat'(first|exact ze3|refine ze2 ?_ ?_|refine ze4 ?_|exact ze5|fail)
   obtain rfl:i=s.length:=by omega
   exact zp (ZA _ _)
theorem Qkg{s:List UInt8}{q:Int}(h:s.length<=1000000000):zAc 310 [.d (.s s),.d (.n .u8 q)] [.row 0] [(0,.row 9 (strE (parts s q)) true)]:=by
 refine zAC func310 fun w0 Z=>?_
 repeat'(first|(refine zhm fun hb=>?_;try exact zab)|refine zUtp ?_|refine zg2 ?_ ?_|intro _)
 refine Qa (fun(i:Nat)=>⟨35,[(0,.d (.s s)),(1,.d (.n .u8 q)),(5,.row 8),(6,zI (pst s q i).2),(7,zI i)],[(8,.row 9 (strE (pst s q i).1) true)]⟩) (fun i=>i<=s.length) (fun i=>s.length-i) 0 (by omega) ?_ ?_
 ·refine⟨rfl,?_,?_,rfl⟩
  repeat'(first|exact ze3|refine ze2 ?_ ?_|refine ze4 ?_|exact ze5|fail)
  all_goals exact zp rfl
 ·intro i hi
  have hp:=Qmb s q i
  repeat'(first|(refine zhm fun hb=>?_;try exact zab)|refine zUtp ?_|refine zg2 ?_ ?_|intro _)
  ·refine⟨i+1,by omega,by omega,?_⟩
   refine⟨rfl,?_,?_,rfl⟩
   repeat'(first|exact ze3|refine ze2 ?_ ?_|refine ze4 ?_|exact ze5|fail)
   ·exact zp (by rw[Qb5 hb])
   ·exact zp (by rw[Qb5 hb,<-ZA])
  ·refine⟨i+1,by omega,by omega,?_⟩
   refine⟨rfl,?_,?_,rfl⟩
   repeat'(first|exact ze3|refine ze2 ?_ ?_|refine ze4 ?_|exact ze5|fail)
   ·exact zp (by rw[Qgg hb])
   ·exact zp (by rw[Qgg hb])
  ·refine zr [8] ?_ ?_
   repeat'(first|exact ze3|refine ze2 ?_ ?_|refine ze4 ?_|exact ze5|fail)
   obtain rfl:i=s.length:=by omega
   exact zp (ZA _ _)
def valI(s:List UInt8):Nat->Int
 | 0=>0
 | i+1=>10*valI s i+(((s.getD i 0).toNat:Int)-48)
def dig(s:List UInt8)(j:Nat):Prop:=48<=(s.getD j 0).toNat/\(s.getD j 0).toNat<=57
instance (s:List UInt8) (j:Nat):Decidable (dig s j):=by unfold dig;infer_instance
def QS(s:List UInt8):Int×Bool:=if 1<=s.length/\s.length<=10/\(∀j,j<s.length->dig s j)/\Q1 (valI s s.length)=s then(valI s s.length,true) else(0,false)
theorem QpM{s:List UInt8}:∀(i:Nat),i<=9->(∀j,j<i->dig s j)->0<=valI s i/\valI s i<10 ^ i
 | 0,_,_=>by simp[valI]
 | i+1,h,hd=>by
  have h1:=QpM i (by omega) (fun j hj=>hd j (by omega))
  have h2:=hd i (by omega)
  unfold dig at h2
  have e:(10:Int) ^ (i+1)=10*10 ^ i:=by rw[Int.pow_succ];omega
  rw[e]
  simp only[valI]
  omega
theorem QuD{s:List UInt8}{i:Nat}(h:i<=9)(hd:∀j,j<i->dig s j):0<=valI s i/\valI s i<1000000000:=by
 have h1:=QpM i h hd
 have h2:(10:Int) ^ i<=10 ^ 9:=by
  have:=Nat.pow_le_pow_right (n:=10) (by omega) h
  exact_mod_cast this
 omega
theorem Wo{s:List UInt8}(h:¬(1<=s.length/\s.length<=10/\(∀j,j<s.length->dig s j)/\Q1 (valI s s.length)=s)):QS s=(0,false):=if_neg h
theorem QaD{s:List UInt8}(h:1<=s.length/\s.length<=10/\(∀j,j<s.length->dig s j)/\Q1 (valI s s.length)=s):QS s=(valI s s.length,true):=if_pos h
theorem Qet{s:List UInt8}:zAc 193 [.d (.s s)] [zI (QS s).1,.d (.b (QS s).2)] []:=by
 refine zAC func193 fun w0 Z=>?_
 by_cases a:1<=s.length/\s.length<=10
 ·repeat'(first|(refine zhm fun hb=>?_;try exact zab)|refine zUtp ?_|refine zg2 ?_ ?_|refine zqj Q5 ?_|intro _)
  refine Qa (fun(i:Nat)=>⟨39,[(0,.d (.s s)),(4,zI (valI s i)),(5,zI (i:Int))],[]⟩) (fun i=>i<=s.length/\∀j,j<i->dig s j) (fun i=>s.length-i) 0 ⟨by omega,fun j hj=>absurd hj (by omega)⟩ ?_ ?_
  ·refine⟨rfl,?_,?_,rfl⟩
   repeat'(first|exact ze3|refine ze2 ?_ ?_|refine ze4 ?_|exact ze5|fail)
   all_goals exact zp rfl
  ·intro i e
   obtain⟨e,c⟩:=e
   have f:i<s.length->0<=valI s i/\valI s i<1000000000:=fun h=>QuD (by omega) c
   repeat'(first|(refine zhm fun hb=>?_;try exact zab)|refine zUtp ?_|refine zg2 ?_ ?_|refine zqj Q5 ?_|refine zqj VO ?_|intro _)
   ·refine zr [] ?_ ?_
    repeat'(first|exact ze3|refine ze2 ?_ ?_|refine ze4 ?_|exact ze5|fail)
    all_goals
     refine zp ?_
     rw[Wo (fun h=>by have:=h.2.2.1 i (by omega);unfold dig at this;omega)]
   ·refine zr [] ?_ ?_
    repeat'(first|exact ze3|refine ze2 ?_ ?_|refine ze4 ?_|exact ze5|fail)
    all_goals
     refine zp ?_
     rw[Wo (fun h=>by have:=h.2.2.1 i (by omega);unfold dig at this;omega)]
   ·refine⟨i+1,⟨by omega,fun j hj=>?_⟩,by omega,?_⟩
    ·rcases XbT.1 hj with h1|rfl
     ·exact c j h1
     ·unfold dig;omega
    ·refine⟨rfl,?_,?_,rfl⟩
     repeat'(first|exact ze3|refine ze2 ?_ ?_|refine ze4 ?_|exact ze5|fail)
     all_goals
      refine zp ?_
      first|(simp only[valI];done)|(simp only[valI];omega)
   ·obtain rfl:i=s.length:=by omega
    refine zr [] ?_ ?_
    repeat'(first|exact ze3|refine ze2 ?_ ?_|refine ze4 ?_|exact ze5|fail)
    all_goals
     refine zp ?_
     rw[Wo (fun h=>hb h.2.2.2)]
   ·obtain rfl:i=s.length:=by omega
    refine zr [] ?_ ?_
    repeat'(first|exact ze3|refine ze2 ?_ ?_|refine ze4 ?_|exact ze5|fail)
    all_goals
     refine zp ?_
     rw[QaD ⟨a.1,a.2,c,hb⟩]
 ·repeat'(first|(refine zhm fun hb=>?_;try exact zab)|refine zUtp ?_|refine zg2 ?_ ?_|refine zqj Q5 ?_|intro _)
  all_goals
   refine zr [] ?_ ?_
   repeat'(first|exact ze3|refine ze2 ?_ ?_|refine ze4 ?_|exact ze5|fail)
   all_goals
    refine zp ?_
    rw[Wo (fun h=>a ⟨h.1,h.2.1⟩)]
theorem QiV{s:List UInt8}:zAc 311 [.d (.s s)] [zI (QS s).1,.d (.b (QS s).2)] []:=by
 refine zAC func311 fun w0 Z=>?_
 by_cases a:1<=s.length/\s.length<=10
 ·repeat'(first|(refine zhm fun hb=>?_;try exact zab)|refine zUtp ?_|refine zg2 ?_ ?_|intro _)
  refine Qa (fun(i:Nat)=>⟨43,[(0,.d (.s s)),(4,zI (valI s i)),(5,zI (i:Int))],[]⟩) (fun i=>i<=s.length/\∀j,j<i->dig s j) (fun i=>s.length-i) 0 ⟨by omega,fun j hj=>absurd hj (by omega)⟩ ?_ ?_
  ·refine⟨rfl,?_,?_,rfl⟩
   repeat'(first|exact ze3|refine ze2 ?_ ?_|refine ze4 ?_|exact ze5|fail)
   all_goals exact zp rfl
  ·intro i e
   obtain⟨e,c⟩:=e
   have f:i<s.length->0<=valI s i/\valI s i<1000000000:=fun h=>QuD (by omega) c
   repeat'(first|(refine zhm fun hb=>?_;try exact zab)|refine zUtp ?_|refine zg2 ?_ ?_|refine zqj ZB ?_|intro _)
   ·refine zr [] ?_ ?_
    repeat'(first|exact ze3|refine ze2 ?_ ?_|refine ze4 ?_|exact ze5|fail)
    all_goals
     refine zp ?_
     rw[Wo (fun h=>by have:=h.2.2.1 i (by omega);unfold dig at this;omega)]
   ·refine zr [] ?_ ?_
    repeat'(first|exact ze3|refine ze2 ?_ ?_|refine ze4 ?_|exact ze5|fail)
    all_goals
     refine zp ?_
     rw[Wo (fun h=>by have:=h.2.2.1 i (by omega);unfold dig at this;omega)]
   ·refine⟨i+1,⟨by omega,fun j hj=>?_⟩,by omega,?_⟩
    ·rcases XbT.1 hj with h1|rfl
     ·exact c j h1
     ·unfold dig;omega
    ·refine⟨rfl,?_,?_,rfl⟩
     repeat'(first|exact ze3|refine ze2 ?_ ?_|refine ze4 ?_|exact ze5|fail)
     all_goals
      refine zp ?_
      first|(simp only[valI];done)|(simp only[valI];omega)
   ·obtain rfl:i=s.length:=by omega
    refine zr [] ?_ ?_
    repeat'(first|exact ze3|refine ze2 ?_ ?_|refine ze4 ?_|exact ze5|fail)
    all_goals
     refine zp ?_
     rw[Wo (fun h=>hb h.2.2.2)]
   ·obtain rfl:i=s.length:=by omega
    refine zr [] ?_ ?_
    repeat'(first|exact ze3|refine ze2 ?_ ?_|refine ze4 ?_|exact ze5|fail)
    all_goals
     refine zp ?_
     rw[QaD ⟨a.1,a.2,c,hb⟩]
 ·repeat'(first|(refine zhm fun hb=>?_;try exact zab)|refine zUtp ?_|refine zg2 ?_ ?_|intro _)
  all_goals
   refine zr [] ?_ ?_
   repeat'(first|exact ze3|refine ze2 ?_ ?_|refine ze4 ?_|exact ze5|fail)
   all_goals
    refine zp ?_
    rw[Wo (fun h=>a ⟨h.1,h.2.1⟩)]
def Jj(v:V3):List UInt8:=if Qh v=true then Q1 v.a++[47]++Q1 v.b++[47]++Q1 v.c else[]
theorem VR{v:V3}(h:Qh v=true):Jj v=Q1 v.a++[47]++Q1 v.b++[47]++Q1 v.c:=if_pos h
theorem X4{v:V3}(h:Qh v=false):Jj v=[]:=if_neg (by simp[h])
theorem Yi(v:V3):(Jj v).length<=32:=by
 unfold Jj
 have h1:=Qx v.a
 have h2:=Qx v.b
 have h3:=Qx v.c
 split
 ·simp;omega
 ·simp
theorem Zi{v:V3}:zAc 187 [vecA v] [.d (.s (Jj v))] []:=by
 refine zAC func187 fun w0 Z=>?_
 have h1:=Qx v.a
 have h2:=Qx v.b
 have h3:=Qx v.c
 repeat'(first|(refine zhm fun hb=>?_;try exact zab)|refine QcZ ?_|(apply zch;exact zcg)|exact zhk|refine zg3 ?_ ?_|refine kc (Yu (v:=v)) rfl rfl ?_|refine zqd VO ?_|refine kq (Yu (v:=v)) rfl rfl ?_|intro _)
 ·refine zr [] ?_ ?_
  repeat'(first|exact ze3|refine ze2 ?_ ?_|refine ze4 ?_|exact ze5|fail)
  exact zp (X4 hb).symm
 ·refine zr [] ?_ ?_
  repeat'(first|exact ze3|refine ze2 ?_ ?_|refine ze4 ?_|exact ze5|fail)
  refine zp ?_
  rw[VR hb]
theorem W1{v:V3}:zAc 99 [vecA v] [.d (.s (Jj v))] []:=by
 refine zAC func99 fun w0 Z=>?_
 have h1:=Qx v.a
 have h2:=Qx v.b
 have h3:=Qx v.c
 repeat'(first|(refine zhm fun hb=>?_;try exact zab)|refine QcZ ?_|(apply zch;exact zcg)|exact zhk|refine zg3 ?_ ?_|refine kc (J9 (v:=v)) rfl rfl ?_|refine zqd ZB ?_|refine kq (J9 (v:=v)) rfl rfl ?_|intro _)
 ·refine zr [] ?_ ?_
  repeat'(first|exact ze3|refine ze2 ?_ ?_|refine ze4 ?_|exact ze5|fail)
  exact zp (X4 hb).symm
 ·refine zr [] ?_ ?_
  repeat'(first|exact ze3|refine ze2 ?_ ?_|refine ze4 ?_|exact ze5|fail)
  refine zp ?_
  rw[VR hb]
def vec0:V3:=⟨0,0,0⟩
def tvV(s:List UInt8):V3:=⟨(QS (nth (parts s 47) 0)).1,(QS (nth (parts s 47) 1)).1,(QS (nth (parts s 47) 2)).1⟩
def tvOk(s:List UInt8):Bool:=decide (((parts s 47).length:Int)=3)&&(QS (nth (parts s 47) 0)).2&&(QS (nth (parts s 47) 1)).2&&(QS (nth (parts s 47) 2)).2&&Qh (tvV s)
def YX(s:List UInt8):V3×Bool:=if tvOk s=true then(tvV s,true) else(vec0,false)
theorem ZM{s:List UInt8}(h:tvOk s=true):YX s=(tvV s,true):=if_pos h
theorem Qco{s:List UInt8}(h:tvOk s=false):YX s=(vec0,false):=if_neg (by simp[h])
theorem QeQ{s:List UInt8}(h:s.length<=1000000000):zAc 192 [.d (.s s)] [vecA (YX s).1,.d (.b (YX s).2)] []:=by
 refine zAC func192 fun w0 Z=>?_
 repeat'(first|(refine zhm fun hb=>?_;try exact zab)|refine zUtp ?_|refine zg2 ?_ ?_|refine kc (Qhg (by omega)) rfl rfl ?_|refine zqj Qet ?_|refine kc (Yu (v:=tvV s)) rfl rfl ?_|intro _)
 all_goals
  refine zr [] ?_ ?_
  repeat'(first|exact ze3|refine ze2 ?_ ?_|refine ze4 ?_|exact ze5|fail)
  all_goals
   refine zp ?_
   first
    | (rw[Qco (by first|(simp only[tvOk, *];done)|(simp only[tvOk, *];rfl))];done)
    | (rw[Qco (by first|(simp only[tvOk, *];done)|(simp only[tvOk, *];rfl))];rfl)
    | (rw[ZM (by first|(simp only[tvOk, *];done)|(simp only[tvOk, *];rfl))];done)
    | (rw[ZM (by first|(simp only[tvOk, *];done)|(simp only[tvOk, *];rfl))];rfl)
def ZX(s:List UInt8)(k i:Nat):Int:=if k<i then(QS (nth (parts s 47) k)).1 else 0
def nums(s:List UInt8)(i:Nat):List Int:=[ZX s 0 i,ZX s 1 i,ZX s 2 i]
def tvS(s:List UInt8):V3:=⟨ZX s 0 (parts s 47).length,ZX s 1 (parts s 47).length,ZX s 2 (parts s 47).length⟩
def X6(s:List UInt8):V3×Bool:=if Jj (tvS s)=s then(tvS s,true) else(vec0,false)
theorem Qhq{s:List UInt8}{k i:Nat}(h:k≠i):ZX s k (i+1)=ZX s k i:=by
 unfold ZX
 by_cases a:k<i
 ·rw[if_pos a,if_pos (by omega)]
 ·rw[if_neg a,if_neg (by omega)]
theorem QsD{s:List UInt8}{i:Nat}(h:i<3):(intE (nums s i)).set i [.n .i64 (QS (nth (parts s 47) i)).1]=intE (nums s (i+1)):=by
 match i,h with
 | 0,_=>simp[nums,intE,ZX]
 | 1,_=>simp[nums,intE,ZX]
 | 2,_=>simp[nums,intE,ZX]
theorem QrP{s:List UInt8}{i:Nat}(h:¬i<3):nums s (i+1)=nums s i:=by
 unfold nums
 rw[Qhq (by omega),Qhq (by omega),Qhq (by omega)]
theorem Qqc{s:List UInt8}(h:s.length<=1000000000):zAc 312 [.d (.s s)] [vecA (X6 s).1,.d (.b (X6 s).2)] []:=by
 refine zAC func312 fun w0 Z=>?_
 repeat'(first|(refine zhm fun hb=>?_;try exact zab)|refine Qd ?_|(apply zch;exact zcg)|exact zhk|refine zg3 ?_ ?_|refine kc (Qkg (by omega)) rfl rfl ?_|refine kq (Qkg (by omega)) rfl rfl ?_|intro _)
 rename_i e
 refine Qa (fun(i:Nat)=>⟨44,[(0,.d (.s s)),(2,.ptr 2 0),(4,.row 8),(10,.row 10),(11,zI (parts s 47).length),(12,zI (i:Int))],[(2,.box 29 [zI 0,zI 0,zI 0]),(8,.row 3 (intE (nums s i)) true),(10,.row 9 (strE (parts s 47)) true)]⟩) (fun i=>i<=(parts s 47).length) (fun i=>(parts s 47).length-i) 0 (by omega) ?_ ?_
 ·refine⟨rfl,?_,?_,rfl⟩
  repeat'(first|exact ze3|refine ze2 ?_ ?_|refine ze4 ?_|exact ze5|fail)
  all_goals exact zp rfl
 ·intro i hi
  have f:(nums s i).length=3:=rfl
  repeat'(first|(refine zhm fun hb=>?_;try exact zab)|refine Qd ?_|(apply zch;exact zcg)|exact zhk|refine zg3 ?_ ?_|refine zqd QiV ?_|refine kc (W1 (v:=⟨ZX s 0 i,ZX s 1 i,ZX s 2 i⟩)) rfl rfl ?_|refine kq (W1 (v:=⟨ZX s 0 i,ZX s 1 i,ZX s 2 i⟩)) rfl rfl ?_|intro _)
  ·refine⟨i+1,by omega,by omega,?_⟩
   refine⟨rfl,?_,?_,rfl⟩
   repeat'(first|exact ze3|refine ze2 ?_ ?_|refine ze4 ?_|exact ze5|fail)
   exact zp (QsD (by omega))
  ·refine⟨i+1,by omega,by omega,?_⟩
   refine⟨rfl,?_,?_,rfl⟩
   repeat'(first|exact ze3|refine ze2 ?_ ?_|refine ze4 ?_|exact ze5|fail)
   exact zp (by rw[QrP (by omega)])
  ·obtain rfl:i=(parts s 47).length:=by omega
   have c:X6 s=(vec0,false):=if_neg hb
   rw[c]
   refine zr [] ?_ ?_
   repeat'(first|exact ze3|refine ze2 ?_ ?_|refine ze4 ?_|exact ze5|fail)
   all_goals exact zp rfl
  ·obtain rfl:i=(parts s 47).length:=by omega
   have a:X6 s=(tvS s,true):=if_pos hb
   rw[a]
   refine zr [] ?_ ?_
   repeat'(first|exact ze3|refine ze2 ?_ ?_|refine ze4 ?_|exact ze5|fail)
   all_goals exact zp rfl
end
section

def split(q:Int):List UInt8->List (List UInt8)
 | []=>[[]]
 | b::s=>if(b.toNat:Int)=q then[]::split q s else match split q s with
  | h::t=>(b::h)::t
  | []=>[[b]]
theorem Qbi(q:Int):∀(s:List UInt8),split q s≠[]
 | []=>by simp[split]
 | b::s=>by
  simp only[split]
  split
  ·simp
  ·split <;> simp
def QaY(q:Int)(acc:List UInt8)(s:List UInt8):List (List UInt8):=match split q s with
 | h::t=>(acc++h)::t
 | []=>[acc]
theorem QnL{q:Int}{acc:List UInt8}{b:UInt8}{s:List UInt8}(h:(b.toNat:Int)=q):QaY q acc (b::s)=acc::QaY q [] s:=by
 unfold QaY
 simp only[split,if_pos h]
 cases c:split q s with
 | nil=>exact absurd c (Qbi q s)
 | cons a l=>simp
theorem QqJ{q:Int}{acc:List UInt8}{b:UInt8}{s:List UInt8}(h:¬(b.toNat:Int)=q):QaY q acc (b::s)=QaY q (acc++[b]) s:=by
 unfold QaY
 simp only[split,if_neg h]
 cases c:split q s with
 | nil=>exact absurd c (Qbi q s)
 | cons a l=>simp
theorem QfH(s:List UInt8)(q:Int):∀(k i:Nat),i+k=s.length->parts s q=(pst s q i).1++QaY q ((s.take i).drop (pst s q i).2) (s.drop i)
 | 0,i,h=>by
  have:i=s.length:=by omega
  subst this
  simp[parts,QaY,split]
 | k+1,i,h=>by
  have hlt:i<s.length:=by omega
  have ih:=QfH s q k (i+1) (by omega)
  have hd:s.drop i=s[i]::s.drop (i+1):=Xa8 hlt
  have hg:s.getD i 0=s[i]:=by rw[List.getD_eq_getElem?_getD,List.getElem?_eq_getElem hlt];rfl
  have hle:=(Qmb s q i).1
  rw[ih,hd]
  by_cases hq:((s.getD i 0).toNat:Int)=q
  ·rw[Qb5 hq,QnL (by rw[<-hg];exact hq)]
   have e:(s.take (i+1)).drop (i+1)=[]:=Xbb (by simp;omega)
   rw[e,Xao]
   rfl
  ·rw[Qgg hq,QqJ (by rw[<-hg];exact hq)]
   have e:(s.take (i+1)).drop (pst s q i).2=(s.take i).drop (pst s q i).2++[s[i]]:=by
    rw[XaA hlt,XbJ (by simp;omega)]
   rw[e]
theorem WD(s:List UInt8)(q:Int):parts s q=split q s:=by
 rw[QfH s q s.length 0 (by omega)]
 simp only[pst,XbP,List.drop_nil,XbO,Xba,QaY]
 cases b:split q s with
 | nil=>exact absurd b (Qbi q s)
 | cons a l=>simp
theorem Zb{q:Int}:∀{x:List UInt8},(∀b∈x,(b.toNat:Int)≠q)->split q x=[x]
 | [],_=>rfl
 | b::x,h=>by
  simp only[split,if_neg (h b Xaa),Zb fun c hc=>h c (Xad _ hc)]
theorem QbB{q:Int}{c:UInt8}(hc:(c.toNat:Int)=q){y:List UInt8}:∀{x:List UInt8},(∀b∈x,(b.toNat:Int)≠q)->split q (x++c::y)=x::split q y
 | [],_=>by simp only[Xba,split,if_pos hc]
 | b::x,h=>by
  simp only[Xbp,split,if_neg (h b Xaa),QbB hc fun d hd=>h d (Xad _ hd)]
def Qnz(c:UInt8):List (List UInt8)->List UInt8
 | []=>[]
 | [x]=>x
 | x::y::l=>x++c::Qnz c (y::l)
theorem QfX{c:UInt8}:∀(s:List UInt8),Qnz c (split (c.toNat:Int) s)=s
 | []=>rfl
 | b::s=>by
  have ih:=QfX (c:=c) s
  simp only[split]
  split
  ·rename_i h
   have hbc:b=c:=by
    apply UInt8.toNat_inj.1
    omega
   cases hs:split (c.toNat:Int) s with
   | nil=>exact absurd hs (Qbi _ s)
   | cons a l=>
    rw[hs]at ih
    simp only[Qnz,Xba,ih,hbc]
  ·cases hs:split (c.toNat:Int) s with
   | nil=>exact absurd hs (Qbi _ s)
   | cons a l=>
    rw[hs]at ih
    cases l with
    | nil=>simp only[Qnz]at ih ⊢;rw[ih]
    | cons x l=>simp only[Qnz,Xbp]at ih ⊢;rw[ih]

theorem QfJ{d:Nat}(h:d<10):(UInt8.ofNat (48+d)).toNat=48+d:=by simp;omega
theorem Xx:∀(k n:Nat),n<10 ^ (k+1)->∀b∈numT n,48<=b.toNat/\b.toNat<=57
 | 0,n,h,b,hb=>by
  rw[Vy (by omega),XaH]at hb
  subst hb
  rw[QfJ (by omega)];omega
 | k+1,n,h,b,hb=>by
  by_cases h1:n<10
  ·rw[Vy h1,XaH]at hb
   subst hb
   rw[QfJ (by omega)];omega
  ·rw[XD h1,Xag,XaH]at hb
   rcases hb with hb|rfl
   ·exact Xx k (n / 10) (by rw[Nat.pow_succ]at h;omega) b hb
   ·rw[QfJ (by omega)];omega
theorem Qsq(n:Nat):0<(numT n).length:=by
 by_cases a:n<10
 ·rw[Vy a];simp
 ·rw[XD a];simp
theorem Qmn{s t:List UInt8}:∀(i:Nat),i<=s.length->valI (s++t) i=valI s i
 | 0,_=>rfl
 | i+1,h=>by
  have e:(s++t).getD i 0=s.getD i 0:=by
   rw[List.getD_eq_getElem?_getD,List.getD_eq_getElem?_getD,List.getElem?_append_left (by omega)]
  simp only[valI,Qmn (s:=s) (t:=t) i (by omega),e]
theorem QiU:∀(k n:Nat),n<10 ^ (k+1)->valI (numT n) (numT n).length=n
 | 0,n,h=>by
  rw[Vy (by omega)]
  simp only[XaF,valI,XbN,QfJ (show n<10 by omega)]
  omega
 | k+1,n,h=>by
  by_cases h1:n<10
  ·rw[Vy h1]
   simp only[XaF,valI,XbN,QfJ (show n<10 by omega)]
   omega
  ·have ih:=QiU k (n / 10) (by rw[Nat.pow_succ]at h;omega)
   rw[XD h1,Xab,XaF]
   have e:(numT (n / 10)++[UInt8.ofNat (48+n % 10)]).getD (numT (n / 10)).length 0=UInt8.ofNat (48+n % 10):=by
    rw[List.getD_eq_getElem?_getD,List.getElem?_append_right (Xaj _)]
    simp
   simp only[valI,Qmn (s:=numT (n / 10)) (t:=[UInt8.ofNat (48+n % 10)]) _ (Xaj _),ih,e,QfJ (show n % 10<10 by omega)]
   omega
theorem QZ{x:Int}(h:0<=x/\x<=1000000000):QS (Q1 x)=(x,true):=by
 have a:x.toNat<10 ^ 10:=by omega
 rw[ZO h]
 have b:=QiU 9 x.toNat a
 have d:((x.toNat:Nat):Int)=x:=by omega
 rw[d]at b
 have c:∀j,j<(numT x.toNat).length->dig (numT x.toNat) j:=fun j hj=>by
  unfold dig
  have:=Xx 9 x.toNat a ((numT x.toNat)[j]) (Xbm hj)
  rw[List.getD_eq_getElem?_getD,List.getElem?_eq_getElem hj]
  exact this
 have hb:Q1 (valI (numT x.toNat) (numT x.toNat).length)=numT x.toNat:=by rw[b,ZO h]
 rw[QaD ⟨Qsq _,QaU 9 _ a,c,hb⟩,b]
theorem XF{s:List UInt8}(h:(QS s).2=true):Q1 (QS s).1=s:=by
 unfold QS at h ⊢
 split
 ·rename_i a;exact a.2.2.2
 ·rename_i a;rw[if_neg a]at h;cases h

theorem Qjz{v:V3}(h:Qh v=true):split 47 (Jj v)=[Q1 v.a,Q1 v.b,Q1 v.c]:=by
 have f:∀{x:Int},inB x 0 1000000=true->∀b∈Q1 x,(b.toNat:Int)≠47:=fun {x} hx b hb=>by
  rw[J4]at hx
  rw[ZO (by omega)]at hb
  have:=Xx 9 x.toNat (by omega) b hb
  omega
 have d:=h
 unfold Qh at d
 rw[Xac,Xac]at d
 rw[VR h]
 have e:Q1 v.a++[47]++Q1 v.b++[47]++Q1 v.c=Q1 v.a++(47:UInt8)::(Q1 v.b++(47:UInt8)::Q1 v.c):=by simp
 rw[e,QbB (c:=47) (by decide) (f d.1.1),QbB (c:=47) (by decide) (f d.1.2),Zb (f d.2)]
theorem Qpe{v:V3}(h:Qh v=true):(0<=v.a/\v.a<=1000000000)/\(0<=v.b/\v.b<=1000000000)/\(0<=v.c/\v.c<=1000000000):=by
 unfold Qh at h
 rw[Xac,Xac,J4,J4,J4]at h
 omega
theorem QpP(s:List UInt8)(h:(parts s 47).length=3):tvS s=tvV s:=by
 unfold tvS tvV ZX
 rw[h]
 rfl
theorem Qjy(s:List UInt8):X6 s=YX s:=by
 unfold X6
 split
 ·rename_i h
  have d:Qh (tvS s)=true:=by
   cases hb:Qh (tvS s) with
   | true=>rfl
   | false=>
    rw[X4 hb]at h
    subst h
    revert hb
    decide
  have f:parts s 47=[Q1 (tvS s).a,Q1 (tvS s).b,Q1 (tvS s).c]:=by
   have n:=Qjz d
   rw[h]at n
   rw[WD]
   exact n
  obtain⟨r,t,g⟩:=Qpe d
  have e:tvS s=tvV s:=QpP s (by rw[f];rfl)
  rw[ZM,<-e]
  unfold tvOk
  rw[<-e,d,f]
  simp only[nth,XbN,Xch,QZ r,QZ t,QZ g]
  rfl
 ·rename_i h
  cases hb:tvOk s with
  | false=>rw[Qco hb]
  | true=>
   exfalso
   apply h
   unfold tvOk at hb
   simp only[Xac,decide_eq_true_eq]at hb
   obtain⟨⟨⟨⟨u,i⟩,j⟩,k⟩,l⟩:=hb
   have g:(parts s 47).length=3:=by omega
   rw[QpP s g,VR l]
   match f:parts s 47,g with
   | [x,y,z],_=>
    have o:nth (parts s 47) 0=x:=by rw[f];rfl
    have p:nth (parts s 47) 1=y:=by rw[f];rfl
    have q:nth (parts s 47) 2=z:=by rw[f];rfl
    unfold tvV
    simp only
    rw[XF i,XF j,XF k,o,p,q]
    have m:=QfX (c:=47) s
    have:split ((47:UInt8).toNat:Int) s=[x,y,z]:=by rw[<-f,WD];rfl
    rw[this]at m
    simpa [Qnz] using m
end
section
attribute [local irreducible] AWp QM OpOk ACalls ChA QsOk MCalls EnC PY
def wj(l:List (List UInt8)):Nat->List UInt8
 | 0=>[]
 | i+1=>(if 0<i then wj l i++[32]else wj l i)++nth l i
def Z1(l:List (List UInt8)):List UInt8:=wj l l.length
def Qi8(l:List (List UInt8)):Prop:=l.length<=100/\∀w∈l,w.length<=1000
theorem QiW{l:List (List UInt8)}(h:Qi8 l){i:Nat}(hi:i<l.length):(nth l i).length<=1000:=by
 unfold nth
 rw[List.getD_eq_getElem?_getD,List.getElem?_eq_getElem hi]
 exact h.2 _ (Xbm hi)
theorem Quf{l:List (List UInt8)}(h:Qi8 l):∀(i:Nat),i<=l.length->(wj l i).length<=i*1001
 | 0,_=>by simp[wj]
 | i+1,hi=>by
  have h1:=Quf h i (by omega)
  have h2:=QiW h (i:=i) (by omega)
  simp only[wj]
  split
  ·simp only[Xab,XaF];omega
  ·simp only[Xab];omega
theorem Qyw{l:List (List UInt8)}{i:Nat}(h:0<i):wj l (i+1)=wj l i++[32]++nth l i:=by simp only[wj];rw[if_pos h]
theorem Qyn{l:List (List UInt8)}{i:Nat}(h:¬0<i):wj l (i+1)=wj l i++nth l i:=by simp only[wj];rw[if_neg h]
theorem XE{l:List (List UInt8)}(h:Qi8 l):zAc 185 [zL (strE l)] [.d (.s (Z1 l))] []:=by
 refine zAC func185 fun w0 Z=>?_
 have a:=h.1
 repeat'(first|(refine zhm fun hb=>?_;try exact zab)|refine zUtp ?_|refine zg2 ?_ ?_|intro _)
 refine Qa (fun(i:Nat)=>⟨22,[(3,.d (.s (wj l i))),(6,zL (strE l)),(7,zI l.length),(8,zI (i:Int))],[]⟩) (fun i=>i<=l.length) (fun i=>l.length-i) 0 (by omega) ?_ ?_
 ·refine⟨rfl,?_,?_,rfl⟩
  repeat'(first|exact ze3|refine ze2 ?_ ?_|refine ze4 ?_|exact ze5|fail)
  all_goals exact zp rfl
 ·intro i b
  have c:=Quf h i b
  have e:i<l.length->(nth l i).length<=1000:=fun h'=>QiW h h'
  repeat'(first|(refine zhm fun hb=>?_;try exact zab)|refine zUtp ?_|refine zg2 ?_ ?_|intro _)
  ·refine⟨i+1,by omega,by omega,?_⟩
   refine⟨rfl,?_,?_,rfl⟩
   repeat'(first|exact ze3|refine ze2 ?_ ?_|refine ze4 ?_|exact ze5|fail)
   exact zp (Qyw (by omega)).symm
  ·refine⟨i+1,by omega,by omega,?_⟩
   refine⟨rfl,?_,?_,rfl⟩
   repeat'(first|exact ze3|refine ze2 ?_ ?_|refine ze4 ?_|exact ze5|fail)
   exact zp (Qyn (by omega)).symm
  ·obtain rfl:i=l.length:=by omega
   refine zr [] ?_ ?_
   repeat'(first|exact ze3|refine ze2 ?_ ?_|refine ze4 ?_|exact ze5|fail)
   all_goals exact zp rfl
def VM:List (List UInt8):=[[],[115,117,98,109,105,116],[99,97,110,99,101,108],[100,111,110,101],[102,97,105,108],[114,101,115,117,109,101],[108,105,99],[103,111]]
def cmdW(k:Int):List UInt8:=if 1<=k/\k<=7 then nth VM k.toNat else[]
theorem Qio{k:Int}:zAc 188 [zI k] [.d (.s (cmdW k))] []:=by
 by_cases h:1<=k/\k<=7
 ·obtain rfl|rfl|rfl|rfl|rfl|rfl|rfl:k=1\/k=2\/k=3\/k=4\/k=5\/k=6\/k=7:=by omega
  all_goals
   refine zAC func188 fun w0 Z=>?_
   repeat'(first|(refine zhm fun hb=>?_;try exact zab)|refine zUto ?_|refine zg2 ?_ ?_|refine zqj Q5 ?_|intro _)
   all_goals
    refine zr [] ?_ ?_
    repeat'(first|exact ze3|refine ze2 ?_ ?_|refine ze4 ?_|exact ze5|fail)
    all_goals exact zp rfl
 ·refine zAC func188 fun w0 Z=>?_
  repeat'(first|(refine zhm fun hb=>?_;try exact zab)|refine zUto ?_|refine zg2 ?_ ?_|refine zqj Q5 ?_|intro _)
  all_goals
   refine zr [] ?_ ?_
   repeat'(first|exact ze3|refine ze2 ?_ ?_|refine ze4 ?_|exact ze5|fail)
   exact zp (if_neg (by omega)).symm
theorem Qoy:zAc 98 [] [.row 0] [(0,.row 9 (strE VM) true)]:=by
 refine zAC func98 fun w0 Z=>?_
 repeat'(first|(refine zhm fun hb=>?_;try exact zab)|refine zUto ?_|refine zg2 ?_ ?_|intro _)
 refine zr [1] ?_ ?_
 repeat'(first|exact ze3|refine ze2 ?_ ?_|refine ze4 ?_|exact ze5|fail)
 all_goals exact zp rfl
def Qci(j:Job):List (List UInt8):=[Q1 j.id,Q1 j.prio,Q1 j.nodes,Jj j.need,Jj j.lic,Q1 j.wall,Q1 j.level]
def jobT(j:Job):List UInt8:=Z1 (Qci j)
theorem QeI(j:Job):Qi8 (Qci j):=by
 refine⟨by simp[Qci],fun w hw=>?_⟩
 have h1:=Qx j.id
 have h2:=Qx j.prio
 have h3:=Qx j.nodes
 have h4:=Yi j.need
 have h5:=Yi j.lic
 have h6:=Qx j.wall
 have h7:=Qx j.level
 simp only[Qci,Xai,Xcf,or_false]at hw
 rcases hw with rfl|rfl|rfl|rfl|rfl|rfl|rfl <;> omega
theorem QmJ(j:Job):(jobT j).length<=900:=by
 have h1:=Qx j.id
 have h2:=Qx j.prio
 have h3:=Qx j.nodes
 have h4:=Yi j.need
 have h5:=Yi j.lic
 have h6:=Qx j.wall
 have h7:=Qx j.level
 simp[jobT,Z1,Qci,wj,nth]
 omega
theorem short2{a b:List UInt8}(h1:a.length<=1000)(h2:b.length<=1000):Qi8 [a,b]:=by
 refine⟨by simp,fun w hw=>?_⟩
 simp only[Xai,Xcf,or_false]at hw
 rcases hw with rfl|rfl <;> omega
theorem Qg9(k:Int):(cmdW k).length<=6:=by
 unfold cmdW
 split
 ·rename_i h
  obtain rfl|rfl|rfl|rfl|rfl|rfl|rfl:k=1\/k=2\/k=3\/k=4\/k=5\/k=6\/k=7:=by omega
  all_goals decide
 ·simp
theorem Qjm{j:Job}:zAc 186 [jobA j] [.d (.s (jobT j))] []:=by
 refine zAC func186 fun w0 Z=>?_
 repeat'(first|(refine zhm fun hb=>?_;try exact zab)|refine QcZ ?_|(apply zch;exact zcg)|exact zhk|refine zg3 ?_ ?_|refine zqd VO ?_|refine kc (Zi (v:=j.need)) rfl rfl ?_|refine kc (Zi (v:=j.lic)) rfl rfl ?_|refine kc (XE (l:=Qci j) (QeI j)) rfl rfl ?_|refine kq (Zi (v:=j.need)) rfl rfl ?_|refine kq (Zi (v:=j.lic)) rfl rfl ?_|refine kq (XE (l:=Qci j) (QeI j)) rfl rfl ?_|intro _)
 refine zr [] ?_ ?_
 repeat'(first|exact ze3|refine ze2 ?_ ?_|refine ze4 ?_|exact ze5|fail)
 all_goals exact zp rfl
def QL(c:Cmd):List UInt8:=if Jv c=true then(if c.kind=1 then Z1 [cmdW 1,jobT c.job]else if c.kind=6 then Z1 [cmdW 6,Jj c.lic]else Z1 [cmdW c.kind,Q1 c.n]) else[]
theorem QfZ{c:Cmd}(h:Jv c=false):QL c=[]:=if_neg (by simp[h])
theorem QbA{c:Cmd}(h:Jv c=true)(hk:c.kind=1):QL c=Z1 [cmdW 1,jobT c.job]:=by rw[QL,if_pos h,if_pos hk]
theorem Qa0{c:Cmd}(h:Jv c=true)(hk:c.kind=6):QL c=Z1 [cmdW 6,Jj c.lic]:=by rw[QL,if_pos h,if_neg (by omega),if_pos hk]
theorem Qbq{c:Cmd}(h:Jv c=true)(h1:¬c.kind=1)(h6:¬c.kind=6):QL c=Z1 [cmdW c.kind,Q1 c.n]:=by rw[QL,if_pos h,if_neg h1,if_neg h6]
theorem Wu{c:Cmd}:zAc 103 [cmdA c] [.d (.s (QL c))] []:=by
 refine zAC func103 fun w0 Z=>?_
 have h1:=QmJ c.job
 have h2:=Yi c.lic
 have h3:=Qx c.n
 have h4:=Qg9 c.kind
 repeat'(first|(refine zhm fun hb=>?_;try exact zab)|refine QcZ ?_|(apply zch;exact zcg)|exact zhk|refine zg3 ?_ ?_|refine kc (Qkj (c:=c)) rfl rfl ?_|refine kc (Qjm (j:=c.job)) rfl rfl ?_|refine kc (Zi (v:=c.lic)) rfl rfl ?_|refine zqd VO ?_|refine zqd Qio ?_|refine kc (XE (l:=[cmdW 1,jobT c.job]) (short2 (by decide) (by omega))) rfl rfl ?_|refine kc (XE (l:=[cmdW 6,Jj c.lic]) (short2 (by decide) (by omega))) rfl rfl ?_|refine kc (XE (l:=[cmdW c.kind,Q1 c.n]) (short2 (by omega) (by omega))) rfl rfl ?_|refine kq (Qkj (c:=c)) rfl rfl ?_|refine kq (Qjm (j:=c.job)) rfl rfl ?_|refine kq (Zi (v:=c.lic)) rfl rfl ?_|refine kq (XE (l:=[cmdW 1,jobT c.job]) (short2 (by decide) (by omega))) rfl rfl ?_|refine kq (XE (l:=[cmdW 6,Jj c.lic]) (short2 (by decide) (by omega))) rfl rfl ?_|refine kq (XE (l:=[cmdW c.kind,Q1 c.n]) (short2 (by omega) (by omega))) rfl rfl ?_|intro _)
 ·refine zr [] ?_ ?_
  repeat'(first|exact ze3|refine ze2 ?_ ?_|refine ze4 ?_|exact ze5|fail)
  exact zp (QfZ (by assumption)).symm
 ·refine zr [] ?_ ?_
  repeat'(first|exact ze3|refine ze2 ?_ ?_|refine ze4 ?_|exact ze5|fail)
  exact zp (QbA (by assumption) (by assumption)).symm
 ·refine zr [] ?_ ?_
  repeat'(first|exact ze3|refine ze2 ?_ ?_|refine ze4 ?_|exact ze5|fail)
  exact zp (Qa0 (by assumption) (by assumption)).symm
 ·refine zr [] ?_ ?_
  repeat'(first|exact ze3|refine ze2 ?_ ?_|refine ze4 ?_|exact ze5|fail)
  exact zp (Qbq (by assumption) (by assumption) (by assumption)).symm
theorem JZ(a b:List UInt8):Z1 [a,b]=a++[32]++b:=by simp[Z1,wj,nth]
theorem QqE(j:Job):jobT j=Q1 j.id++[32]++Q1 j.prio++[32]++Q1 j.nodes++[32]++Jj j.need++[32]++Jj j.lic++[32]++Q1 j.wall++[32]++Q1 j.level:=by simp[jobT,Z1,Qci,wj,nth]
theorem QjX{c:Cmd}(h:Jv c=true):1<=c.kind/\c.kind<=7:=by
 unfold Jv at h
 repeat' split at h
 all_goals first|omega|cases h
theorem XJ{c:Cmd}:zAc 37 [cmdA c] [.d (.s (QL c))] []:=by
 refine zAC func37 fun w0 Z=>?_
 cases a:Jv c with
 | false=>
  repeat'(first|(refine zhm fun hb=>?_;try exact zab)|refine QcZ ?_|(apply zch;exact zcg)|exact zhk|refine zg3 ?_ ?_|refine kc (Qep (c:=c)) rfl rfl ?_|refine kq (Qep (c:=c)) rfl rfl ?_|intro _)
  ·refine zr [] ?_ ?_
   repeat'(first|exact ze3|refine ze2 ?_ ?_|refine ze4 ?_|exact ze5|fail)
   exact zp (QfZ a).symm
  ·rw[a]at hb;cases hb
 | true=>
  have b:=QjX a
  have g:VM.length=8:=rfl
  have f:(nth VM c.kind.toNat).length<=6:=by have:=Qg9 c.kind;rwa [cmdW,if_pos b]at this
  have h1:=Qx c.job.id
  have h2:=Qx c.job.prio
  have h3:=Qx c.job.nodes
  have h4:=Yi c.job.need
  have h5:=Yi c.job.lic
  have h6:=Qx c.job.wall
  have h7:=Qx c.job.level
  have h8:=Yi c.lic
  have h9:=Qx c.n
  repeat'(first|(apply QY 3;kernel_rfl;exact rfl)|(refine zhm fun hb=>?_;try exact zab)|refine QcZ ?_|(apply zch;exact zcg)|exact zhk|refine zg3 ?_ ?_|refine kc (Qep (c:=c)) rfl rfl ?_|refine zqd Qoy ?_|refine zqd ZB ?_|refine kc (W1 (v:=c.job.need)) rfl rfl ?_|refine kc (W1 (v:=c.job.lic)) rfl rfl ?_|refine kc (W1 (v:=c.lic)) rfl rfl ?_|refine kq (Qep (c:=c)) rfl rfl ?_|refine kq (W1 (v:=c.job.need)) rfl rfl ?_|refine kq (W1 (v:=c.job.lic)) rfl rfl ?_|refine kq (W1 (v:=c.lic)) rfl rfl ?_|intro _)
  ·rw[a]at hb;cases hb
  ·refine zr [] ?_ ?_
   repeat'(first|exact ze3|refine ze2 ?_ ?_|refine ze4 ?_|exact ze5|fail)
   refine zp ?_
   have e:nth VM c.kind.toNat=cmdW 1:=by rw[hb];rfl
   rw[QbA a hb,JZ,e,QqE]
   simp
  ·refine zr [] ?_ ?_
   repeat'(first|exact ze3|refine ze2 ?_ ?_|refine ze4 ?_|exact ze5|fail)
   refine zp ?_
   have e:nth VM c.kind.toNat=cmdW 6:=by rw[hb];rfl
   rw[Qa0 a hb,JZ,e]
  ·refine zr [] ?_ ?_
   repeat'(first|exact ze3|refine ze2 ?_ ?_|refine ze4 ?_|exact ze5|fail)
   refine zp ?_
   have e:nth VM c.kind.toNat=cmdW c.kind:=by rw[cmdW,if_pos b]
   rw[Qbq a (by assumption) hb,JZ,e]
theorem Qef(s:List UInt8)(q:Int):∀(i:Nat),∀x∈(pst s q i).1,x.length<=s.length
 | 0,x,h=>by simp[pst]at h
 | i+1,x,h=>by
  simp only[pst]at h
  split at h
  ·rw[Xag]at h
   rcases h with h|h
   ·exact Qef s q i x h
   ·rw[XaH]at h
    subst h
    simp only[XaP,Xah];omega
  ·exact Qef s q i x h
theorem QaO{s:List UInt8}{q:Int}{x:List UInt8}(h:x∈parts s q):x.length<=s.length:=by
 unfold parts at h
 rw[Xag]at h
 rcases h with h|h
 ·exact Qef s q _ x h
 ·rw[XaH]at h
  subst h
  simp only[XaP,Xah];omega
theorem Qq7{l:List (List UInt8)}{n:Nat}(h:∀x∈l,x.length<=n)(j:Nat):(nth l j).length<=n:=by
 unfold nth
 rw[List.getD_eq_getElem?_getD]
 by_cases a:j<l.length
 ·rw[List.getElem?_eq_getElem a];exact h _ (Xbm a)
 ·rw[List.getElem?_eq_none (by omega)];exact Xae _
theorem QhT{s:List UInt8}(q:Int)(j:Nat):(nth (parts s q) j).length<=s.length:=Qq7 (fun _ h=>QaO h) j
theorem Qjv{l:List (List UInt8)}{n j:Nat}(h:l.length<=n):((strE l).take n).drop j=strE (l.drop j):=by
 rw[Xay (by rw[YP];exact h)]
 simp[strE,List.map_drop]
theorem Qjw(s:List UInt8)(q:Int):0<(parts s q).length:=by simp[parts]
def kd(w:List UInt8):Nat->Nat
 | 0=>0
 | i+1=>if 0<i/\nth VM i=w then i else kd w i
theorem QuJ{w:List UInt8}{i:Nat}(h:0<i)(hw:nth VM i=w):kd w (i+1)=i:=if_pos ⟨h,hw⟩
theorem Qv7{w:List UInt8}{i:Nat}(hw:¬(0<i/\nth VM i=w)):kd w (i+1)=kd w i:=if_neg hw
def Qm1(w:List (List UInt8)):Job:=⟨(QS (nth w 0)).1,(QS (nth w 1)).1,(QS (nth w 2)).1,(YX (nth w 3)).1,(YX (nth w 4)).1,(QS (nth w 5)).1,(QS (nth w 6)).1⟩
def job0:Job:=⟨0,0,0,vec0,vec0,0,0⟩
def cmd0:Cmd:=⟨0,job0,0,vec0⟩
abbrev kdS(s:List UInt8):Nat:=kd (nth (parts s 32) 0) 8
def cJ(s:List UInt8):Cmd:=⟨kdS s,Qm1 ((parts s 32).drop 1),0,vec0⟩
def cL(s:List UInt8):Cmd:=⟨kdS s,job0,0,(YX (nth (parts s 32) 1)).1⟩
def cN(s:List UInt8):Cmd:=⟨kdS s,job0,(QS (nth (parts s 32) 1)).1,vec0⟩
def cZ(s:List UInt8):Cmd:=⟨kdS s,job0,0,vec0⟩
def QbW(s:List UInt8):Cmd:=if(kdS s:Int)=1/\((parts s 32).length:Int)=8 then cJ s else if(kdS s:Int)=6/\((parts s 32).length:Int)=2 then cL s else if((parts s 32).length:Int)=2 then cN s else cZ s
theorem Qhr{s:List UInt8}(h1:(kdS s:Int)=1)(h2:((parts s 32).length:Int)=8):QbW s=cJ s:=if_pos ⟨h1,h2⟩
theorem Qff{s:List UInt8}(h1:(kdS s:Int)=6)(h2:((parts s 32).length:Int)=2):QbW s=cL s:=by
 unfold QbW;rw[if_neg (by omega),if_pos ⟨h1,h2⟩]
theorem QeJ{s:List UInt8}(h1:¬(kdS s:Int)=6)(h2:((parts s 32).length:Int)=2):QbW s=cN s:=by
 unfold QbW;rw[if_neg (by omega),if_neg (by omega),if_pos h2]
theorem QgL{s:List UInt8}(h1:¬((kdS s:Int)=1/\((parts s 32).length:Int)=8))(h2:¬((parts s 32).length:Int)=2):QbW s=cZ s:=by
 unfold QbW;rw[if_neg h1,if_neg (by omega),if_neg h2]
def JX(s:List UInt8):Cmd×Bool:=if s=[]\/¬QL (QbW s)=s then(cmd0,false) else(QbW s,true)
theorem QdB{s:List UInt8}(h:s=[]):JX s=(cmd0,false):=if_pos (Or.inl h)
theorem Wi{s:List UInt8}{c:Cmd}(hc:QbW s=c)(h:¬QL c=s):JX s=(cmd0,false):=if_pos (Or.inr (by rw[hc];exact h))
theorem YS{s:List UInt8}{c:Cmd}(hc:QbW s=c)(hn:¬s=[])(h:QL c=s):JX s=(c,true):=by
 unfold JX
 rw[hc,if_neg (by rintro (a|a);exact hn a;exact a h)]
theorem QiN{l:List (List UInt8)}{es:List (List D)}(he:es=strE l)(h7:7<=l.length)(hl:∀x∈l,x.length<=1000000000):zAc 191 [zL es] [jobA (Qm1 l)] []:=by
 subst he
 refine zAC func191 fun w0 Z=>?_
 repeat'(first|(refine zhm fun hb=>?_;try exact zab)|refine zUto ?_|refine zg2 ?_ ?_|refine zqj Qet ?_|refine kc (QeQ (Qq7 hl _)) rfl rfl ?_|intro _)
 refine zr [] ?_ ?_
 repeat'(first|exact ze3|refine ze2 ?_ ?_|refine ze4 ?_|exact ze5|fail)
 all_goals exact zp rfl
theorem Qe0{s:List UInt8}(h:s.length<=1000000000):zAc 107 [.d (.s s)] [cmdA (JX s).1,.d (.b (JX s).2)] []:=by
 refine zAC func107 fun w0 Z=>?_
 have f:=Qjw s 32
 have a:=fun j=>QhT (s:=s) 32 j
 repeat'(first|(refine zhm fun hb=>?_;try exact zab)|refine Qd ?_|(apply zch;exact zcg)|exact zhk|refine zg3 ?_ ?_|refine kc (Qhg (by omega)) rfl rfl ?_|refine kq (Qhg (by omega)) rfl rfl ?_|intro _)
 refine Qp 8 rfl ?_
 refine Qa (fun(i:Nat)=>⟨74,[(0,.d (.s s)),(2,.ptr 2 0),(4,zL (strE (parts s 32))),(5,.ptr 5 0),(6,zI (i:Int))],[(2,.box 42 (List.replicate 16 (zI 0))),(5,.box 42 (zI (kd (nth (parts s 32) 0) i:Nat)::List.replicate 15 (zI 0)))]⟩) (fun i=>1<=i/\i<=8) (fun i=>8-i) 1 (by omega) ?_ ?_
 ·refine⟨rfl,?_,?_,rfl⟩
  repeat'(first|exact ze3|refine ze2 ?_ ?_|refine ze4 ?_|exact ze5|fail)
  all_goals exact zp rfl
 ·intro i hi
  rcases(by omega:i<=7\/i=8)with h7|rfl
  ·have e:cmdW (i:Int)=nth VM i:=by rw[cmdW,if_pos (by omega)];rfl
   repeat'(first|(refine zhm fun hb=>?_;try exact zab)|refine Qd ?_|(apply zch;exact zcg)|exact zhk|refine zg3 ?_ ?_|refine zqd Qio ?_|intro _)
   ·refine⟨i+1,by omega,by omega,?_⟩
    refine⟨rfl,?_,?_,rfl⟩
    repeat'(first|exact ze3|refine ze2 ?_ ?_|refine ze4 ?_|exact ze5|fail)
    all_goals exact zp (by rw[QuJ (by omega) (by rw[<-e];exact hb)])
   ·refine⟨i+1,by omega,by omega,?_⟩
    refine⟨rfl,?_,?_,rfl⟩
    repeat'(first|exact ze3|refine ze2 ?_ ?_|refine ze4 ?_|exact ze5|fail)
    all_goals exact zp (by rw[Qv7 (by rw[<-e];exact fun h=>hb h.2)])
  ·repeat'(first|(refine zhm fun hb=>?_;try exact zab)|refine Qd ?_|(apply zch;exact zcg)|exact zhk|refine zg3 ?_ ?_|(refine kc (QiN (l:=(parts s 32).drop 1) (Qjv (by omega)) (by rw[XaP];omega) (fun x hx=>Xam (QaO (XaM hx)) h)) rfl rfl ?_)|refine kc (QeQ (Xam (a 1) h)) rfl rfl ?_|refine zqd Qet ?_|refine kc (Wu (c:=cJ s)) rfl rfl ?_|refine kc (Wu (c:=cL s)) rfl rfl ?_|refine kc (Wu (c:=cN s)) rfl rfl ?_|refine kc (Wu (c:=cZ s)) rfl rfl ?_|refine kq (QiN (l:=(parts s 32).drop 1) (Qjv (by omega)) (by rw[XaP];omega) (fun x hx=>Xam (QaO (XaM hx)) h)) rfl rfl ?_|refine kq (QeQ (Xam (a 1) h)) rfl rfl ?_|refine kq (Wu (c:=cJ s)) rfl rfl ?_|refine kq (Wu (c:=cL s)) rfl rfl ?_|refine kq (Wu (c:=cN s)) rfl rfl ?_|refine kq (Wu (c:=cZ s)) rfl rfl ?_|intro _)
   all_goals
    first
     | rw[QdB (by assumption)]
     | rw[Wi (Qhr (by assumption) (by assumption)) (by assumption)]
     | rw[Wi (Qff (by assumption) (by assumption)) (by assumption)]
     | rw[Wi (QeJ (by assumption) (by assumption)) (by assumption)]
     | rw[Wi (QgL (s:=s) (by unfold kdS;omega) (by assumption)) (by assumption)]
     | rw[YS (Qhr (by assumption) (by assumption)) (by assumption) (by assumption)]
     | rw[YS (Qff (by assumption) (by assumption)) (by assumption) (by assumption)]
     | rw[YS (QeJ (by assumption) (by assumption)) (by assumption) (by assumption)]
     | rw[YS (QgL (s:=s) (by unfold kdS;omega) (by assumption)) (by assumption) (by assumption)]
    refine zr [] ?_ ?_
    repeat'(first|exact ze3|refine ze2 ?_ ?_|refine ze4 ?_|exact ze5|fail)
    all_goals exact zp rfl
theorem QoH(l:List (List UInt8))(j:Nat):nth (l.drop 1) j=nth l (j+1):=by
 unfold nth
 rw[List.getD_eq_getElem?_getD,List.getD_eq_getElem?_getD,List.getElem?_drop,Nat.add_comm]
theorem Qrq{s:List UInt8}(h:s.length<=1000000000):zAc 312 [.d (.s s)] [vecA (YX s).1,.d (.b (YX s).2)] []:=by
 rw[<-Qjy]
 exact Qqc h
abbrev cJs(s:List UInt8):Cmd:=⟨kdS s,⟨(QS (nth (parts s 32) 1)).1,(QS (nth (parts s 32) 2)).1,(QS (nth (parts s 32) 3)).1,(YX (nth (parts s 32) 4)).1,(YX (nth (parts s 32) 5)).1,(QS (nth (parts s 32) 6)).1,(QS (nth (parts s 32) 7)).1⟩,0,vec0⟩
theorem Qw2(s:List UInt8):cJ s=cJs s:=by
 unfold cJ Qm1
 simp only[QoH]
theorem QlT{s:List UInt8}(h1:(kdS s:Int)=1)(h2:((parts s 32).length:Int)=8):QbW s=cJs s:=by rw[Qhr h1 h2,Qw2]
theorem QoN{s:List UInt8}(h:s.length<=1000000000):zAc 281 [.d (.s s)] [cmdA (JX s).1,.d (.b (JX s).2)] []:=by
 refine zAC func281 fun w0 Z=>?_
 have e:=Qjw s 32
 have a:=fun j=>QhT (s:=s) 32 j
 have f:VM.length=8:=rfl
 repeat'(first|(refine zhm fun hb=>?_;try exact zab)|refine zUtp ?_|refine zg2 ?_ ?_|refine kc (Qkg (by omega)) rfl rfl ?_|refine zqj Qoy ?_|intro _)
 refine Qp 9 rfl ?_
 refine Qp 11 rfl ?_
 refine Qa (fun(i:Nat)=>⟨138,[(0,.d (.s s)),(2,.ptr 2 0),(4,zL (strE (parts s 32))),(5,.ptr 5 0),(11,zL (strE VM)),(12,zI 8),(13,zI (i:Int))],[(2,.box 42 (List.replicate 16 (zI 0))),(5,.box 42 (zI (kd (nth (parts s 32) 0) i:Nat)::List.replicate 15 (zI 0)))]⟩) (fun i=>i<=8) (fun i=>8-i) 0 (by omega) ?_ ?_
 ·refine⟨rfl,?_,?_,rfl⟩
  repeat'(first|exact ze3|refine ze2 ?_ ?_|refine ze4 ?_|exact ze5|fail)
  all_goals exact zp rfl
 ·intro i hi
  rcases(by omega:i<=7\/i=8)with h7|rfl
  ·repeat'(first|(refine zhm fun hb=>?_;try exact zab)|refine zUtp ?_|refine zg2 ?_ ?_|intro _)
   ·refine⟨i+1,by omega,by omega,?_⟩
    refine⟨rfl,?_,?_,rfl⟩
    repeat'(first|exact ze3|refine ze2 ?_ ?_|refine ze4 ?_|exact ze5|fail)
    all_goals exact zp (by rw[QuJ (by omega) (by assumption)])
   ·refine⟨i+1,by omega,by omega,?_⟩
    refine⟨rfl,?_,?_,rfl⟩
    repeat'(first|exact ze3|refine ze2 ?_ ?_|refine ze4 ?_|exact ze5|fail)
    all_goals exact zp (by rw[Qv7 (fun h=>by first|contradiction|exact absurd h.2 (by assumption)|omega)])
   ·refine⟨i+1,by omega,by omega,?_⟩
    refine⟨rfl,?_,?_,rfl⟩
    repeat'(first|exact ze3|refine ze2 ?_ ?_|refine ze4 ?_|exact ze5|fail)
    all_goals exact zp (by rw[Qv7 (fun h=>by first|contradiction|exact absurd h.2 (by assumption)|omega)])
  ·repeat'(first|(refine zhm fun hb=>?_;try exact zab)|refine zUtp ?_|refine zg2 ?_ ?_|refine kc (Qrq (Xam (a _) h)) rfl rfl ?_|refine zqj QiV ?_|refine kc (XJ (c:=cJs s)) rfl rfl ?_|refine kc (XJ (c:=cL s)) rfl rfl ?_|refine kc (XJ (c:=cN s)) rfl rfl ?_|refine kc (XJ (c:=cZ s)) rfl rfl ?_|intro _)
   all_goals
    first
     | rw[QdB (by assumption)]
     | rw[Wi (QlT (by assumption) (by assumption)) (by assumption)]
     | rw[Wi (Qff (by assumption) (by assumption)) (by assumption)]
     | rw[Wi (QeJ (by assumption) (by assumption)) (by assumption)]
     | rw[Wi (QgL (s:=s) (by unfold kdS;omega) (by assumption)) (by assumption)]
     | rw[YS (QlT (by assumption) (by assumption)) (by assumption) (by assumption)]
     | rw[YS (Qff (by assumption) (by assumption)) (by assumption) (by assumption)]
     | rw[YS (QeJ (by assumption) (by assumption)) (by assumption) (by assumption)]
     | rw[YS (QgL (s:=s) (by unfold kdS;omega) (by assumption)) (by assumption) (by assumption)]
    refine zr [] ?_ ?_
    repeat'(first|exact ze3|refine ze2 ?_ ?_|refine ze4 ?_|exact ze5|fail)
    all_goals exact zp rfl
theorem QrR{x lo hi:Int}:zAc 62 [zI x,zI lo,zI hi] [.d (.b (inB x lo hi))] []:=by
 refine zAC func62 fun w0 Z=>?_
 repeat'(first|(refine zhm fun hb=>?_;try exact zab)|refine zUto ?_|refine zg2 ?_ ?_|intro _)
 all_goals
  refine zr [] ?_ ?_
  repeat'(first|exact ze3|refine ze2 ?_ ?_|refine ze4 ?_|exact ze5|fail)
  refine zp ?_
  simp[inB, *]
def Y0(s:List UInt8):Bool:=decide (1<=s.length)&&decide (s.length<=200)&&s.all fun b=>b.toNat != 10
theorem Qmv{s:List UInt8}{i:Nat}(hi:i<s.length)(h:((s.getD i 0).toNat:Int)=10):Y0 s=false:=by
 unfold Y0
 have:(s.all fun b=>b.toNat != 10)=false:=by
  rw[List.all_eq_false]
  refine⟨s[i],Xbm hi,?_⟩
  rw[List.getD_eq_getElem?_getD,List.getElem?_eq_getElem hi]at h
  simp only[XaJ]at h
  simp;omega
 rw[this,Xcm]
theorem Qiz{s:List UInt8}(h:∀j,j<s.length->((s.getD j 0).toNat:Int)≠10):(s.all fun b=>b.toNat != 10)=true:=by
 rw[XaD]
 intro b hb
 obtain⟨j,a,rfl⟩:=Xbh hb
 have:=h j a
 rw[List.getD_eq_getElem?_getD,List.getElem?_eq_getElem a]at this
 simp only[XaJ]at this
 simp;omega
theorem Qmo{s:List UInt8}{q:Int}:∀(i:Nat),(pst s q i).1=[]↔∀j,j<i->((s.getD j 0).toNat:Int)≠q
 | 0=>⟨fun _ j hj=>absurd hj (by omega),fun _=>rfl⟩
 | i+1=>by
  by_cases h:((s.getD i 0).toNat:Int)=q
  ·rw[Qb5 h]
   exact⟨fun e=>by simp at e,fun hh=>absurd h (hh i (by omega))⟩
  ·rw[Qgg h,Qmo i]
   refine⟨fun hh j hj=>?_,fun hh j hj=>hh j (by omega)⟩
   rcases XbT.1 hj with h1|rfl
   ·exact hh j h1
   ·exact h
theorem QpF(s:List UInt8):((parts s 10).length=1)↔(s.all fun b=>b.toNat != 10)=true:=by
 unfold parts
 rw[Xab,XaF]
 have a:(pst s 10 s.length).1.length+1=1↔(pst s 10 s.length).1=[]:=by
  rw[<-Xbl];omega
 rw[a,Qmo]
 refine⟨fun h=>Qiz h,fun h j hj e=>?_⟩
 have:=Qmv hj e
 rw[XaD]at h
 have c:=h s[j] (Xbm hj)
 rw[List.getD_eq_getElem?_getD,List.getElem?_eq_getElem hj]at e
 simp only[XaJ]at e
 simp at c;omega
theorem Qb9{s:List UInt8}(h:s.length<=1000000000):zAc 106 [.d (.s s)] [.d (.b (Y0 s))] []:=by
 refine zAC func106 fun w0 Z=>?_
 repeat'(first|(refine zhm fun hb=>?_;try exact zab)|refine zUtp ?_|refine zg2 ?_ ?_|refine zqj QrR ?_|refine kc (Qhg (by omega)) rfl rfl ?_|intro _)
 ·refine zr [] ?_ ?_
  repeat'(first|exact ze3|refine ze2 ?_ ?_|refine ze4 ?_|exact ze5|fail)
  refine zp ?_
  have e:=QpF s
  have a:decide (1<=s.length)=true:=decide_eq_true (by omega)
  have c:decide (s.length<=200)=true:=decide_eq_true (by omega)
  rw[Y0,a,c,XbD,XbD,Xan,<-e,beq_iff_eq]
  omega
 ·refine zr [] ?_ ?_
  repeat'(first|exact ze3|refine ze2 ?_ ?_|refine ze4 ?_|exact ze5|fail)
  refine zp ?_
  have a:(decide (1<=s.length)&&decide (s.length<=200))=false:=by
   rw[Bool.and_eq_false_iff,decide_eq_false_iff_not,decide_eq_false_iff_not]
   omega
  rw[Y0,a,Xcd]
theorem Zv{s:List UInt8}(h:s.length<=1000000000):zAc 290 [.d (.s s)] [.d (.b (Y0 s))] []:=by
 refine zAC func290 fun w0 Z=>?_
 repeat'(first|(refine zhm fun hb=>?_;try exact zab)|refine zUtp ?_|refine zg2 ?_ ?_|intro _)
 refine Qa (fun(i:Nat)=>⟨22,[(0,.d (.s s)),(3,zI i)],[]⟩) (fun i=>i<=s.length/\∀j,j<i->((s.getD j 0).toNat:Int)≠10) (fun i=>s.length-i) 0 ⟨by omega,fun j hj=>absurd hj (by omega)⟩ ?_ ?_
 ·refine⟨rfl,?_,?_,rfl⟩
  repeat'(first|exact ze3|refine ze2 ?_ ?_|refine ze4 ?_|exact ze5|fail)
 ·intro i ⟨hi,hj⟩
  repeat'(first|(refine zhm fun hb=>?_;try exact zab)|refine zUtp ?_|refine zg2 ?_ ?_|intro _)
  ·refine zr [] ?_ ?_
   repeat'(first|exact ze3|refine ze2 ?_ ?_|refine ze4 ?_|exact ze5|fail)
   exact zp (Qmv (by omega) hb).symm
  ·refine⟨i+1,⟨by omega,fun j hj'=>?_⟩,by omega,?_⟩
   ·rcases XbT.1 hj' with h1|rfl
    ·exact hj j h1
    ·exact hb
   ·refine⟨rfl,?_,?_,rfl⟩
    repeat'(first|exact ze3|refine ze2 ?_ ?_|refine ze4 ?_|exact ze5|fail)
  ·obtain rfl:i=s.length:=by omega
   refine zr [] ?_ ?_
   repeat'(first|exact ze3|refine ze2 ?_ ?_|refine ze4 ?_|exact ze5|fail)
   refine zp ?_
   rw[Y0,Qiz hj,Bool.and_true]
   have a:decide (1<=s.length)=true:=decide_eq_true (by omega)
   rw[a,XbD]
   exact decide_eq_decide.2 (by omega)
  ·obtain rfl:i=s.length:=by omega
   refine zr [] ?_ ?_
   repeat'(first|exact ze3|refine ze2 ?_ ?_|refine ze4 ?_|exact ze5|fail)
   refine zp ?_
   rw[Y0]
   have a:decide (1<=s.length)=false:=decide_eq_false (by omega)
   rw[a,Xcd,Xcd]
end
end Go.Proofs.YtkdniahincpmaaaGreat
