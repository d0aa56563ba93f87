/-
  Parts: both.
-/
import Derived.Test.YtkdniahincpmaaaGreatKB32
set_option maxRecDepth 100000
set_option maxHeartbeats 16000000
namespace Go.Proofs.YtkdniahincpmaaaGreat
open Go Go.RowKit Tryz
section
attribute [local irreducible] AWp QI OpOk ACalls ChA QsOk MCalls EnC PY
def pst(s:List UInt8)(q:Int):Nat->List (List UInt8)×Nat
 | 0=>([],0)
 | i+1=>if((s.getD i 0).toNat:Int)=q then((pst s q i).1++[(s.take i).drop (pst s q i).2],i+1)else pst s q i
def parts(s:List UInt8)(q:Int):List (List UInt8):=(pst s q s.length).1++[(s.take s.length).drop (pst s q s.length).2]
theorem Qmr(s:List UInt8)(q:Int):∀(i:Nat),(pst s q i).2<=i/\(pst s q i).1.length<=i
 | 0=>⟨Xaj _,Xaj _⟩
 | i+1=>by
  have:=Qmr s q i
  simp only[pst]
  split
  ·simp;omega
  ·omega
theorem Qcv{s:List UInt8}{q:Int}{i:Nat}(h:((s.getD i 0).toNat:Int)=q):pst s q (i+1)=((pst s q i).1++[(s.take i).drop (pst s q i).2],i+1):=if_pos h
theorem QfZ{s:List UInt8}{q:Int}{i:Nat}(h:¬((s.getD i 0).toNat:Int)=q):pst s q (i+1)=pst s q i:=if_neg h
theorem Zq(l:List (List UInt8))(x:List UInt8):strE l++[[.s x]]=strE (l++[x]):=by simp[strE]
theorem QgG{s:List UInt8}{q:Int}(h:s.length<=1000000000):zAc 190 [.d (.s s),.d (.n .u8 q)] [.row 0] [(0,.row 9 (strE (parts s q)) true)]:=by
 refine zAC func190 fun w0 Z=>?_
 repeat'(first|(refine zhm fun hb=>?_;try exact zab)|refine zUtp ?_|refine zg2 ?_ ?_|intro _)
 refine Qa (fun(i:Nat)=>⟨35,[(0,.d (.s s)),(1,.d (.n .u8 q)),(5,.row 8),(6,zI (pst s q i).2),(7,zI i)],[(8,.row 9 (strE (pst s q i).1) true)]⟩) (fun i=>i<=s.length) (fun i=>s.length-i) 0 (by omega) ?_ ?_
 ·refine⟨rfl,?_,?_,rfl⟩
  repeat'(first|exact ze3|refine ze2 ?_ ?_|refine ze4 ?_|exact ze5|fail)
  all_goals exact zp rfl
 ·intro i hi
  have hp:=Qmr s q i
  repeat'(first|(refine zhm fun hb=>?_;try exact zab)|refine zUtp ?_|refine zg2 ?_ ?_|intro _)
  ·refine⟨i+1,by omega,by omega,?_⟩
   refine⟨rfl,?_,?_,rfl⟩
   repeat'(first|exact ze3|refine ze2 ?_ ?_|refine ze4 ?_|exact ze5|fail)
   ·exact zp (by rw[Qcv hb])
   ·exact zp (by rw[Qcv hb,<-Zq])
  ·refine⟨i+1,by omega,by omega,?_⟩
   refine⟨rfl,?_,?_,rfl⟩
   repeat'(first|exact ze3|refine ze2 ?_ ?_|refine ze4 ?_|exact ze5|fail)
   ·exact zp (by rw[QfZ hb])
   ·exact zp (by rw[QfZ hb])
  ·refine zr [8] ?_ ?_
   repeat'(first|exact ze3|refine ze2 ?_ ?_|refine ze4 ?_|exact ze5|fail)
   obtain rfl:i=s.length:=by omega
   exact zp (Zq _ _)
theorem Qks{s:List UInt8}{q:Int}(h:s.length<=1000000000):zAc 310 [.d (.s s),.d (.n .u8 q)] [.row 0] [(0,.row 9 (strE (parts s q)) true)]:=by
 refine zAC func310 fun w0 Z=>?_
 repeat'(first|(refine zhm fun hb=>?_;try exact zab)|refine zUtp ?_|refine zg2 ?_ ?_|intro _)
 refine Qa (fun(i:Nat)=>⟨35,[(0,.d (.s s)),(1,.d (.n .u8 q)),(5,.row 8),(6,zI (pst s q i).2),(7,zI i)],[(8,.row 9 (strE (pst s q i).1) true)]⟩) (fun i=>i<=s.length) (fun i=>s.length-i) 0 (by omega) ?_ ?_
 ·refine⟨rfl,?_,?_,rfl⟩
  repeat'(first|exact ze3|refine ze2 ?_ ?_|refine ze4 ?_|exact ze5|fail)
  all_goals exact zp rfl
 ·intro i hi
  have hp:=Qmr s q i
  repeat'(first|(refine zhm fun hb=>?_;try exact zab)|refine zUtp ?_|refine zg2 ?_ ?_|intro _)
  ·refine⟨i+1,by omega,by omega,?_⟩
   refine⟨rfl,?_,?_,rfl⟩
   repeat'(first|exact ze3|refine ze2 ?_ ?_|refine ze4 ?_|exact ze5|fail)
   ·exact zp (by rw[Qcv hb])
   ·exact zp (by rw[Qcv hb,<-Zq])
  ·refine⟨i+1,by omega,by omega,?_⟩
   refine⟨rfl,?_,?_,rfl⟩
   repeat'(first|exact ze3|refine ze2 ?_ ?_|refine ze4 ?_|exact ze5|fail)
   ·exact zp (by rw[QfZ hb])
   ·exact zp (by rw[QfZ hb])
  ·refine zr [8] ?_ ?_
   repeat'(first|exact ze3|refine ze2 ?_ ?_|refine ze4 ?_|exact ze5|fail)
   obtain rfl:i=s.length:=by omega
   exact zp (Zq _ _)
def valI(s:List UInt8):Nat->Int
 | 0=>0
 | i+1=>10*valI s i+(((s.getD i 0).toNat:Int)-48)
def dig(s:List UInt8)(j:Nat):Prop:=48<=(s.getD j 0).toNat/\(s.getD j 0).toNat<=57
instance (s:List UInt8) (j:Nat):Decidable (dig s j):=by unfold dig;infer_instance
def QQ(s:List UInt8):Int×Bool:=if 1<=s.length/\s.length<=10/\(∀j,j<s.length->dig s j)/\QU (valI s s.length)=s then(valI s s.length,true) else(0,false)
theorem Qou{s:List UInt8}:∀(i:Nat),i<=9->(∀j,j<i->dig s j)->0<=valI s i/\valI s i<10 ^ i
 | 0,_,_=>by simp[valI]
 | i+1,h,hd=>by
  have h1:=Qou i (by omega) (fun j hj=>hd j (by omega))
  have h2:=hd i (by omega)
  unfold dig at h2
  have e:(10:Int) ^ (i+1)=10*10 ^ i:=by rw[Int.pow_succ];omega
  rw[e]
  simp only[valI]
  omega
theorem QuP{s:List UInt8}{i:Nat}(h:i<=9)(hd:∀j,j<i->dig s j):0<=valI s i/\valI s i<1000000000:=by
 have h1:=Qou i h hd
 have h2:(10:Int) ^ i<=10 ^ 9:=by
  have:=Nat.pow_le_pow_right (n:=10) (by omega) h
  exact_mod_cast this
 omega
theorem Wb{s:List UInt8}(h:¬(1<=s.length/\s.length<=10/\(∀j,j<s.length->dig s j)/\QU (valI s s.length)=s)):QQ s=(0,false):=if_neg h
theorem QaV{s:List UInt8}(h:1<=s.length/\s.length<=10/\(∀j,j<s.length->dig s j)/\QU (valI s s.length)=s):QQ s=(valI s s.length,true):=if_pos h
theorem QeL{s:List UInt8}:zAc 193 [.d (.s s)] [zI (QQ s).1,.d (.b (QQ s).2)] []:=by
 refine zAC func193 fun w0 Z=>?_
 by_cases a:1<=s.length/\s.length<=10
 ·repeat'(first|(refine zhm fun hb=>?_;try exact zab)|refine zUtp ?_|refine zg2 ?_ ?_|refine zqj QV ?_|intro _)
  refine Qa (fun(i:Nat)=>⟨39,[(0,.d (.s s)),(4,zI (valI s i)),(5,zI (i:Int))],[]⟩) (fun i=>i<=s.length/\∀j,j<i->dig s j) (fun i=>s.length-i) 0 ⟨by omega,fun j hj=>absurd hj (by omega)⟩ ?_ ?_
  ·refine⟨rfl,?_,?_,rfl⟩
   repeat'(first|exact ze3|refine ze2 ?_ ?_|refine ze4 ?_|exact ze5|fail)
   all_goals exact zp rfl
  ·intro i e
   obtain⟨e,c⟩:=e
   have f:i<s.length->0<=valI s i/\valI s i<1000000000:=fun h=>QuP (by omega) c
   repeat'(first|(refine zhm fun hb=>?_;try exact zab)|refine zUtp ?_|refine zg2 ?_ ?_|refine zqj QV ?_|refine zqj Ve ?_|intro _)
   ·refine zr [] ?_ ?_
    repeat'(first|exact ze3|refine ze2 ?_ ?_|refine ze4 ?_|exact ze5|fail)
    all_goals
     refine zp ?_
     rw[Wb (fun h=>by have:=h.2.2.1 i (by omega);unfold dig at this;omega)]
   ·refine zr [] ?_ ?_
    repeat'(first|exact ze3|refine ze2 ?_ ?_|refine ze4 ?_|exact ze5|fail)
    all_goals
     refine zp ?_
     rw[Wb (fun h=>by have:=h.2.2.1 i (by omega);unfold dig at this;omega)]
   ·refine⟨i+1,⟨by omega,fun j hj=>?_⟩,by omega,?_⟩
    ·rcases XbS.1 hj with h1|rfl
     ·exact c j h1
     ·unfold dig;omega
    ·refine⟨rfl,?_,?_,rfl⟩
     repeat'(first|exact ze3|refine ze2 ?_ ?_|refine ze4 ?_|exact ze5|fail)
     all_goals
      refine zp ?_
      first|(simp only[valI];done)|(simp only[valI];omega)
   ·obtain rfl:i=s.length:=by omega
    refine zr [] ?_ ?_
    repeat'(first|exact ze3|refine ze2 ?_ ?_|refine ze4 ?_|exact ze5|fail)
    all_goals
     refine zp ?_
     rw[Wb (fun h=>hb h.2.2.2)]
   ·obtain rfl:i=s.length:=by omega
    refine zr [] ?_ ?_
    repeat'(first|exact ze3|refine ze2 ?_ ?_|refine ze4 ?_|exact ze5|fail)
    all_goals
     refine zp ?_
     rw[QaV ⟨a.1,a.2,c,hb⟩]
 ·repeat'(first|(refine zhm fun hb=>?_;try exact zab)|refine zUtp ?_|refine zg2 ?_ ?_|refine zqj QV ?_|intro _)
  all_goals
   refine zr [] ?_ ?_
   repeat'(first|exact ze3|refine ze2 ?_ ?_|refine ze4 ?_|exact ze5|fail)
   all_goals
    refine zp ?_
    rw[Wb (fun h=>a ⟨h.1,h.2.1⟩)]
theorem QjH{s:List UInt8}:zAc 311 [.d (.s s)] [zI (QQ s).1,.d (.b (QQ s).2)] []:=by
 refine zAC func311 fun w0 Z=>?_
 by_cases a:1<=s.length/\s.length<=10
 ·repeat'(first|(refine zhm fun hb=>?_;try exact zab)|refine zUtp ?_|refine zg2 ?_ ?_|intro _)
  refine Qa (fun(i:Nat)=>⟨43,[(0,.d (.s s)),(4,zI (valI s i)),(5,zI (i:Int))],[]⟩) (fun i=>i<=s.length/\∀j,j<i->dig s j) (fun i=>s.length-i) 0 ⟨by omega,fun j hj=>absurd hj (by omega)⟩ ?_ ?_
  ·refine⟨rfl,?_,?_,rfl⟩
   repeat'(first|exact ze3|refine ze2 ?_ ?_|refine ze4 ?_|exact ze5|fail)
   all_goals exact zp rfl
  ·intro i e
   obtain⟨e,c⟩:=e
   have f:i<s.length->0<=valI s i/\valI s i<1000000000:=fun h=>QuP (by omega) c
   repeat'(first|(refine zhm fun hb=>?_;try exact zab)|refine zUtp ?_|refine zg2 ?_ ?_|refine zqj VO ?_|intro _)
   ·refine zr [] ?_ ?_
    repeat'(first|exact ze3|refine ze2 ?_ ?_|refine ze4 ?_|exact ze5|fail)
    all_goals
     refine zp ?_
     rw[Wb (fun h=>by have:=h.2.2.1 i (by omega);unfold dig at this;omega)]
   ·refine zr [] ?_ ?_
    repeat'(first|exact ze3|refine ze2 ?_ ?_|refine ze4 ?_|exact ze5|fail)
    all_goals
     refine zp ?_
     rw[Wb (fun h=>by have:=h.2.2.1 i (by omega);unfold dig at this;omega)]
   ·refine⟨i+1,⟨by omega,fun j hj=>?_⟩,by omega,?_⟩
    ·rcases XbS.1 hj with h1|rfl
     ·exact c j h1
     ·unfold dig;omega
    ·refine⟨rfl,?_,?_,rfl⟩
     repeat'(first|exact ze3|refine ze2 ?_ ?_|refine ze4 ?_|exact ze5|fail)
     all_goals
      refine zp ?_
      first|(simp only[valI];done)|(simp only[valI];omega)
   ·obtain rfl:i=s.length:=by omega
    refine zr [] ?_ ?_
    repeat'(first|exact ze3|refine ze2 ?_ ?_|refine ze4 ?_|exact ze5|fail)
    all_goals
     refine zp ?_
     rw[Wb (fun h=>hb h.2.2.2)]
   ·obtain rfl:i=s.length:=by omega
    refine zr [] ?_ ?_
    repeat'(first|exact ze3|refine ze2 ?_ ?_|refine ze4 ?_|exact ze5|fail)
    all_goals
     refine zp ?_
     rw[QaV ⟨a.1,a.2,c,hb⟩]
 ·repeat'(first|(refine zhm fun hb=>?_;try exact zab)|refine zUtp ?_|refine zg2 ?_ ?_|intro _)
  all_goals
   refine zr [] ?_ ?_
   repeat'(first|exact ze3|refine ze2 ?_ ?_|refine ze4 ?_|exact ze5|fail)
   all_goals
    refine zp ?_
    rw[Wb (fun h=>a ⟨h.1,h.2.1⟩)]
def Jj(v:V3):List UInt8:=if Qf v=true then QU v.a++[47]++QU v.b++[47]++QU v.c else[]
theorem VU{v:V3}(h:Qf v=true):Jj v=QU v.a++[47]++QU v.b++[47]++QU v.c:=if_pos h
theorem Qau{v:V3}(h:Qf v=false):Jj v=[]:=if_neg (by simp[h])
theorem Ye(v:V3):(Jj v).length<=32:=by
 unfold Jj
 have h1:=Qs v.a
 have h2:=Qs v.b
 have h3:=Qs v.c
 split
 ·simp;omega
 ·simp
theorem ZI{v:V3}:zAc 187 [vecA v] [.d (.s (Jj v))] []:=by
 refine zAC func187 fun w0 Z=>?_
 have h1:=Qs v.a
 have h2:=Qs v.b
 have h3:=Qs v.c
 repeat'(first|(refine zhm fun hb=>?_;try exact zab)|refine Qbn ?_|(apply zch;exact zcg)|exact zhk|refine zg3 ?_ ?_|refine kc (Yy (v:=v)) rfl rfl ?_|refine zqd Ve ?_|refine kq (Yy (v:=v)) rfl rfl ?_|intro _)
 ·refine zr [] ?_ ?_
  repeat'(first|exact ze3|refine ze2 ?_ ?_|refine ze4 ?_|exact ze5|fail)
  exact zp (Qau hb).symm
 ·refine zr [] ?_ ?_
  repeat'(first|exact ze3|refine ze2 ?_ ?_|refine ze4 ?_|exact ze5|fail)
  refine zp ?_
  rw[VU hb]
theorem W5{v:V3}:zAc 99 [vecA v] [.d (.s (Jj v))] []:=by
 refine zAC func99 fun w0 Z=>?_
 have h1:=Qs v.a
 have h2:=Qs v.b
 have h3:=Qs v.c
 repeat'(first|(refine zhm fun hb=>?_;try exact zab)|refine Qbn ?_|(apply zch;exact zcg)|exact zhk|refine zg3 ?_ ?_|refine kc (J5 (v:=v)) rfl rfl ?_|refine zqd VO ?_|refine kq (J5 (v:=v)) rfl rfl ?_|intro _)
 ·refine zr [] ?_ ?_
  repeat'(first|exact ze3|refine ze2 ?_ ?_|refine ze4 ?_|exact ze5|fail)
  exact zp (Qau hb).symm
 ·refine zr [] ?_ ?_
  repeat'(first|exact ze3|refine ze2 ?_ ?_|refine ze4 ?_|exact ze5|fail)
  refine zp ?_
  rw[VU hb]
def vec0:V3:=⟨0,0,0⟩
def tvV(s:List UInt8):V3:=⟨(QQ (nth (parts s 47) 0)).1,(QQ (nth (parts s 47) 1)).1,(QQ (nth (parts s 47) 2)).1⟩
def tvOk(s:List UInt8):Bool:=decide (((parts s 47).length:Int)=3)&&(QQ (nth (parts s 47) 0)).2&&(QQ (nth (parts s 47) 1)).2&&(QQ (nth (parts s 47) 2)).2&&Qf (tvV s)
def YV(s:List UInt8):V3×Bool:=if tvOk s=true then(tvV s,true) else(vec0,false)
theorem Z1{s:List UInt8}(h:tvOk s=true):YV s=(tvV s,true):=if_pos h
theorem QcI{s:List UInt8}(h:tvOk s=false):YV s=(vec0,false):=if_neg (by simp[h])
theorem QdT{s:List UInt8}(h:s.length<=1000000000):zAc 192 [.d (.s s)] [vecA (YV s).1,.d (.b (YV s).2)] []:=by
 refine zAC func192 fun w0 Z=>?_
 repeat'(first|(refine zhm fun hb=>?_;try exact zab)|refine zUtp ?_|refine zg2 ?_ ?_|refine kc (QgG (by omega)) rfl rfl ?_|refine zqj QeL ?_|refine kc (Yy (v:=tvV s)) rfl rfl ?_|intro _)
 all_goals
  refine zr [] ?_ ?_
  repeat'(first|exact ze3|refine ze2 ?_ ?_|refine ze4 ?_|exact ze5|fail)
  all_goals
   refine zp ?_
   first
    | (rw[QcI (by first|(simp only[tvOk, *];done)|(simp only[tvOk, *];rfl))];done)
    | (rw[QcI (by first|(simp only[tvOk, *];done)|(simp only[tvOk, *];rfl))];rfl)
    | (rw[Z1 (by first|(simp only[tvOk, *];done)|(simp only[tvOk, *];rfl))];done)
    | (rw[Z1 (by first|(simp only[tvOk, *];done)|(simp only[tvOk, *];rfl))];rfl)
def Z2(s:List UInt8)(k i:Nat):Int:=if k<i then(QQ (nth (parts s 47) k)).1 else 0
def nums(s:List UInt8)(i:Nat):List Int:=[Z2 s 0 i,Z2 s 1 i,Z2 s 2 i]
def tvS(s:List UInt8):V3:=⟨Z2 s 0 (parts s 47).length,Z2 s 1 (parts s 47).length,Z2 s 2 (parts s 47).length⟩
def Qar(s:List UInt8):V3×Bool:=if Jj (tvS s)=s then(tvS s,true) else(vec0,false)
theorem Qgz{s:List UInt8}{k i:Nat}(h:k≠i):Z2 s k (i+1)=Z2 s k i:=by
 unfold Z2
 by_cases a:k<i
 ·rw[if_pos a,if_pos (by omega)]
 ·rw[if_neg a,if_neg (by omega)]
theorem Qti{s:List UInt8}{i:Nat}(h:i<3):(intE (nums s i)).set i [.n .i64 (QQ (nth (parts s 47) i)).1]=intE (nums s (i+1)):=by
 match i,h with
 | 0,_=>simp[nums,intE,Z2]
 | 1,_=>simp[nums,intE,Z2]
 | 2,_=>simp[nums,intE,Z2]
theorem Qs4{s:List UInt8}{i:Nat}(h:¬i<3):nums s (i+1)=nums s i:=by
 unfold nums
 rw[Qgz (by omega),Qgz (by omega),Qgz (by omega)]
theorem Qq5{s:List UInt8}(h:s.length<=1000000000):zAc 312 [.d (.s s)] [vecA (Qar s).1,.d (.b (Qar s).2)] []:=by
 refine zAC func312 fun w0 Z=>?_
 repeat'(first|(refine zhm fun hb=>?_;try exact zab)|refine Qd ?_|(apply zch;exact zcg)|exact zhk|refine zg3 ?_ ?_|refine kc (Qks (by omega)) rfl rfl ?_|refine kq (Qks (by omega)) rfl rfl ?_|intro _)
 rename_i e
 refine Qa (fun(i:Nat)=>⟨44,[(0,.d (.s s)),(2,.ptr 2 0),(4,.row 8),(10,.row 10),(11,zI (parts s 47).length),(12,zI (i:Int))],[(2,.box 29 [zI 0,zI 0,zI 0]),(8,.row 3 (intE (nums s i)) true),(10,.row 9 (strE (parts s 47)) true)]⟩) (fun i=>i<=(parts s 47).length) (fun i=>(parts s 47).length-i) 0 (by omega) ?_ ?_
 ·refine⟨rfl,?_,?_,rfl⟩
  repeat'(first|exact ze3|refine ze2 ?_ ?_|refine ze4 ?_|exact ze5|fail)
  all_goals exact zp rfl
 ·intro i hi
  have f:(nums s i).length=3:=rfl
  repeat'(first|(refine zhm fun hb=>?_;try exact zab)|refine Qd ?_|(apply zch;exact zcg)|exact zhk|refine zg3 ?_ ?_|refine zqd QjH ?_|refine kc (W5 (v:=⟨Z2 s 0 i,Z2 s 1 i,Z2 s 2 i⟩)) rfl rfl ?_|refine kq (W5 (v:=⟨Z2 s 0 i,Z2 s 1 i,Z2 s 2 i⟩)) rfl rfl ?_|intro _)
  ·refine⟨i+1,by omega,by omega,?_⟩
   refine⟨rfl,?_,?_,rfl⟩
   repeat'(first|exact ze3|refine ze2 ?_ ?_|refine ze4 ?_|exact ze5|fail)
   exact zp (Qti (by omega))
  ·refine⟨i+1,by omega,by omega,?_⟩
   refine⟨rfl,?_,?_,rfl⟩
   repeat'(first|exact ze3|refine ze2 ?_ ?_|refine ze4 ?_|exact ze5|fail)
   exact zp (by rw[Qs4 (by omega)])
  ·obtain rfl:i=(parts s 47).length:=by omega
   have c:Qar s=(vec0,false):=if_neg hb
   rw[c]
   refine zr [] ?_ ?_
   repeat'(first|exact ze3|refine ze2 ?_ ?_|refine ze4 ?_|exact ze5|fail)
   all_goals exact zp rfl
  ·obtain rfl:i=(parts s 47).length:=by omega
   have a:Qar s=(tvS s,true):=if_pos hb
   rw[a]
   refine zr [] ?_ ?_
   repeat'(first|exact ze3|refine ze2 ?_ ?_|refine ze4 ?_|exact ze5|fail)
   all_goals exact zp rfl
end
section

def split(q:Int):List UInt8->List (List UInt8)
 | []=>[[]]
 | b::s=>if(b.toNat:Int)=q then[]::split q s else match split q s with
  | h::t=>(b::h)::t
  | []=>[[b]]
theorem QbF(q:Int):∀(s:List UInt8),split q s≠[]
 | []=>by simp[split]
 | b::s=>by
  simp only[split]
  split
  ·simp
  ·split <;> simp
def Qbm(q:Int)(acc:List UInt8)(s:List UInt8):List (List UInt8):=match split q s with
 | h::t=>(acc++h)::t
 | []=>[acc]
theorem Qok{q:Int}{acc:List UInt8}{b:UInt8}{s:List UInt8}(h:(b.toNat:Int)=q):Qbm q acc (b::s)=acc::Qbm q [] s:=by
 unfold Qbm
 simp only[split,if_pos h]
 cases c:split q s with
 | nil=>exact absurd c (QbF q s)
 | cons a l=>simp
theorem Qon{q:Int}{acc:List UInt8}{b:UInt8}{s:List UInt8}(h:¬(b.toNat:Int)=q):Qbm q acc (b::s)=Qbm q (acc++[b]) s:=by
 unfold Qbm
 simp only[split,if_neg h]
 cases c:split q s with
 | nil=>exact absurd c (QbF q s)
 | cons a l=>simp
theorem Qf0(s:List UInt8)(q:Int):∀(k i:Nat),i+k=s.length->parts s q=(pst s q i).1++Qbm q ((s.take i).drop (pst s q i).2) (s.drop i)
 | 0,i,h=>by
  have:i=s.length:=by omega
  subst this
  simp[parts,Qbm,split]
 | k+1,i,h=>by
  have hlt:i<s.length:=by omega
  have ih:=Qf0 s q k (i+1) (by omega)
  have hd:s.drop i=s[i]::s.drop (i+1):=Xbm hlt
  have hg:s.getD i 0=s[i]:=by rw[List.getD_eq_getElem?_getD,List.getElem?_eq_getElem hlt];rfl
  have hle:=(Qmr s q i).1
  rw[ih,hd]
  by_cases hq:((s.getD i 0).toNat:Int)=q
  ·rw[Qcv hq,Qok (by rw[<-hg];exact hq)]
   have e:(s.take (i+1)).drop (i+1)=[]:=Xbf (by simp;omega)
   rw[e,Xaq]
   rfl
  ·rw[QfZ hq,Qon (by rw[<-hg];exact hq)]
   have e:(s.take (i+1)).drop (pst s q i).2=(s.take i).drop (pst s q i).2++[s[i]]:=by
    rw[Xaz hlt,XbI (by simp;omega)]
   rw[e]
theorem WM(s:List UInt8)(q:Int):parts s q=split q s:=by
 rw[Qf0 s q s.length 0 (by omega)]
 simp only[pst,XbF,List.drop_nil,XbO,XaR,Qbm]
 cases b:split q s with
 | nil=>exact absurd b (QbF q s)
 | cons a l=>simp
theorem Zs{q:Int}:∀{x:List UInt8},(∀b∈x,(b.toNat:Int)≠q)->split q x=[x]
 | [],_=>rfl
 | b::x,h=>by
  simp only[split,if_neg (h b Xac),Zs fun c hc=>h c (Xae _ hc)]
theorem Qbb{q:Int}{c:UInt8}(hc:(c.toNat:Int)=q){y:List UInt8}:∀{x:List UInt8},(∀b∈x,(b.toNat:Int)≠q)->split q (x++c::y)=x::split q y
 | [],_=>by simp only[XaR,split,if_pos hc]
 | b::x,h=>by
  simp only[Xa0,split,if_neg (h b Xac),Qbb hc fun d hd=>h d (Xae _ hd)]
def QnL(c:UInt8):List (List UInt8)->List UInt8
 | []=>[]
 | [x]=>x
 | x::y::l=>x++c::QnL c (y::l)
theorem Qf5{c:UInt8}:∀(s:List UInt8),QnL c (split (c.toNat:Int) s)=s
 | []=>rfl
 | b::s=>by
  have ih:=Qf5 (c:=c) s
  simp only[split]
  split
  ·rename_i h
   have hbc:b=c:=by
    apply UInt8.toNat_inj.1
    omega
   cases hs:split (c.toNat:Int) s with
   | nil=>exact absurd hs (QbF _ s)
   | cons a l=>
    rw[hs]at ih
    simp only[QnL,XaR,ih,hbc]
  ·cases hs:split (c.toNat:Int) s with
   | nil=>exact absurd hs (QbF _ s)
   | cons a l=>
    rw[hs]at ih
    cases l with
    | nil=>simp only[QnL]at ih ⊢;rw[ih]
    | cons x l=>simp only[QnL,Xa0]at ih ⊢;rw[ih]

theorem QfQ{d:Nat}(h:d<10):(UInt8.ofNat (48+d)).toNat=48+d:=by simp;omega
theorem XA:∀(k n:Nat),n<10 ^ (k+1)->∀b∈numT n,48<=b.toNat/\b.toNat<=57
 | 0,n,h,b,hb=>by
  rw[VK (by omega),XaH]at hb
  subst hb
  rw[QfQ (by omega)];omega
 | k+1,n,h,b,hb=>by
  by_cases h1:n<10
  ·rw[VK h1,XaH]at hb
   subst hb
   rw[QfQ (by omega)];omega
  ·rw[Xr h1,Xag,XaH]at hb
   rcases hb with hb|rfl
   ·exact XA k (n / 10) (by rw[Nat.pow_succ]at h;omega) b hb
   ·rw[QfQ (by omega)];omega
theorem Qto(n:Nat):0<(numT n).length:=by
 by_cases a:n<10
 ·rw[VK a];simp
 ·rw[Xr a];simp
theorem Qmp{s t:List UInt8}:∀(i:Nat),i<=s.length->valI (s++t) i=valI s i
 | 0,_=>rfl
 | i+1,h=>by
  have e:(s++t).getD i 0=s.getD i 0:=by
   rw[List.getD_eq_getElem?_getD,List.getD_eq_getElem?_getD,List.getElem?_append_left (by omega)]
  simp only[valI,Qmp (s:=s) (t:=t) i (by omega),e]
theorem QjN:∀(k n:Nat),n<10 ^ (k+1)->valI (numT n) (numT n).length=n
 | 0,n,h=>by
  rw[VK (by omega)]
  simp only[Xap,valI,XbK,QfQ (show n<10 by omega)]
  omega
 | k+1,n,h=>by
  by_cases h1:n<10
  ·rw[VK h1]
   simp only[Xap,valI,XbK,QfQ (show n<10 by omega)]
   omega
  ·have ih:=QjN k (n / 10) (by rw[Nat.pow_succ]at h;omega)
   rw[Xr h1,Xaa,Xap]
   have e:(numT (n / 10)++[UInt8.ofNat (48+n % 10)]).getD (numT (n / 10)).length 0=UInt8.ofNat (48+n % 10):=by
    rw[List.getD_eq_getElem?_getD,List.getElem?_append_right (Xaj _)]
    simp
   simp only[valI,Qmp (s:=numT (n / 10)) (t:=[UInt8.ofNat (48+n % 10)]) _ (Xaj _),ih,e,QfQ (show n % 10<10 by omega)]
   omega
theorem Q0{x:Int}(h:0<=x/\x<=1000000000):QQ (QU x)=(x,true):=by
 have a:x.toNat<10 ^ 10:=by omega
 rw[ZS h]
 have b:=QjN 9 x.toNat a
 have d:((x.toNat:Nat):Int)=x:=by omega
 rw[d]at b
 have c:∀j,j<(numT x.toNat).length->dig (numT x.toNat) j:=fun j hj=>by
  unfold dig
  have:=XA 9 x.toNat a ((numT x.toNat)[j]) (Xbk hj)
  rw[List.getD_eq_getElem?_getD,List.getElem?_eq_getElem hj]
  exact this
 have hb:QU (valI (numT x.toNat) (numT x.toNat).length)=numT x.toNat:=by rw[b,ZS h]
 rw[QaV ⟨Qto _,Qbl 9 _ a,c,hb⟩,b]
theorem Xi{s:List UInt8}(h:(QQ s).2=true):QU (QQ s).1=s:=by
 unfold QQ at h ⊢
 split
 ·rename_i a;exact a.2.2.2
 ·rename_i a;rw[if_neg a]at h;cases h

theorem QiT{v:V3}(h:Qf v=true):split 47 (Jj v)=[QU v.a,QU v.b,QU v.c]:=by
 have f:∀{x:Int},inB x 0 1000000=true->∀b∈QU x,(b.toNat:Int)≠47:=fun {x} hx b hb=>by
  rw[JA]at hx
  rw[ZS (by omega)]at hb
  have:=XA 9 x.toNat (by omega) b hb
  omega
 have d:=h
 unfold Qf at d
 rw[Xab,Xab]at d
 rw[VU h]
 have e:QU v.a++[47]++QU v.b++[47]++QU v.c=QU v.a++(47:UInt8)::(QU v.b++(47:UInt8)::QU v.c):=by simp
 rw[e,Qbb (c:=47) (by decide) (f d.1.1),Qbb (c:=47) (by decide) (f d.1.2),Zs (f d.2)]
theorem Qop{v:V3}(h:Qf v=true):(0<=v.a/\v.a<=1000000000)/\(0<=v.b/\v.b<=1000000000)/\(0<=v.c/\v.c<=1000000000):=by
 unfold Qf at h
 rw[Xab,Xab,JA,JA,JA]at h
 omega
theorem Qqs(s:List UInt8)(h:(parts s 47).length=3):tvS s=tvV s:=by
 unfold tvS tvV Z2
 rw[h]
 rfl
theorem QiC(s:List UInt8):Qar s=YV s:=by
 unfold Qar
 split
 ·rename_i h
  have d:Qf (tvS s)=true:=by
   cases hb:Qf (tvS s) with
   | true=>rfl
   | false=>
    rw[Qau hb]at h
    subst h
    revert hb
    decide
  have f:parts s 47=[QU (tvS s).a,QU (tvS s).b,QU (tvS s).c]:=by
   have n:=QiT d
   rw[h]at n
   rw[WM]
   exact n
  obtain⟨r,t,g⟩:=Qop d
  have e:tvS s=tvV s:=Qqs s (by rw[f];rfl)
  rw[Z1,<-e]
  unfold tvOk
  rw[<-e,d,f]
  simp only[nth,XbK,Xcc,Q0 r,Q0 t,Q0 g]
  rfl
 ·rename_i h
  cases hb:tvOk s with
  | false=>rw[QcI hb]
  | true=>
   exfalso
   apply h
   unfold tvOk at hb
   simp only[Xab,decide_eq_true_eq]at hb
   obtain⟨⟨⟨⟨u,i⟩,j⟩,k⟩,l⟩:=hb
   have g:(parts s 47).length=3:=by omega
   rw[Qqs s g,VU l]
   match f:parts s 47,g with
   | [x,y,z],_=>
    have o:nth (parts s 47) 0=x:=by rw[f];rfl
    have p:nth (parts s 47) 1=y:=by rw[f];rfl
    have q:nth (parts s 47) 2=z:=by rw[f];rfl
    unfold tvV
    simp only
    rw[Xi i,Xi j,Xi k,o,p,q]
    have m:=Qf5 (c:=47) s
    have:split ((47:UInt8).toNat:Int) s=[x,y,z]:=by rw[<-f,WM];rfl
    rw[this]at m
    simpa [QnL] using m
end
section
attribute [local irreducible] AWp QI OpOk ACalls ChA QsOk MCalls EnC PY
theorem Qun{x lo hi:Int}:zAc 62 [zI x,zI lo,zI hi] [.d (.b (inB x lo hi))] []:=by
 refine zAC func62 fun w0 Z=>?_
 repeat'(first|(refine zhm fun hb=>?_;try exact zab)|refine zUto ?_|refine zg2 ?_ ?_|intro _)
 all_goals
  refine zr [] ?_ ?_
  repeat'(first|exact ze3|refine ze2 ?_ ?_|refine ze4 ?_|exact ze5|fail)
  refine zp ?_
  simp[inB, *]
def YY(s:List UInt8):Bool:=decide (1<=s.length)&&decide (s.length<=200)&&s.all fun b=>b.toNat != 10
theorem QlL{s:List UInt8}{i:Nat}(hi:i<s.length)(h:((s.getD i 0).toNat:Int)=10):YY s=false:=by
 unfold YY
 have:(s.all fun b=>b.toNat != 10)=false:=by
  rw[List.all_eq_false]
  refine⟨s[i],Xbk hi,?_⟩
  rw[List.getD_eq_getElem?_getD,List.getElem?_eq_getElem hi]at h
  simp only[XaI]at h
  simp;omega
 rw[this,Xcj]
theorem Qik{s:List UInt8}(h:∀j,j<s.length->((s.getD j 0).toNat:Int)≠10):(s.all fun b=>b.toNat != 10)=true:=by
 rw[Xaw]
 intro b hb
 obtain⟨j,a,rfl⟩:=Xbn hb
 have:=h j a
 rw[List.getD_eq_getElem?_getD,List.getElem?_eq_getElem a]at this
 simp only[XaI]at this
 simp;omega
theorem Qms{s:List UInt8}{q:Int}:∀(i:Nat),(pst s q i).1=[]↔∀j,j<i->((s.getD j 0).toNat:Int)≠q
 | 0=>⟨fun _ j hj=>absurd hj (by omega),fun _=>rfl⟩
 | i+1=>by
  by_cases h:((s.getD i 0).toNat:Int)=q
  ·rw[Qcv h]
   exact⟨fun e=>by simp at e,fun hh=>absurd h (hh i (by omega))⟩
  ·rw[QfZ h,Qms i]
   refine⟨fun hh j hj=>?_,fun hh j hj=>hh j (by omega)⟩
   rcases XbS.1 hj with h1|rfl
   ·exact hh j h1
   ·exact h
theorem Qq1(s:List UInt8):((parts s 10).length=1)↔(s.all fun b=>b.toNat != 10)=true:=by
 unfold parts
 rw[Xaa,Xap]
 have a:(pst s 10 s.length).1.length+1=1↔(pst s 10 s.length).1=[]:=by
  rw[<-Xbh];omega
 rw[a,Qms]
 refine⟨fun h=>Qik h,fun h j hj e=>?_⟩
 have:=QlL hj e
 rw[Xaw]at h
 have c:=h s[j] (Xbk hj)
 rw[List.getD_eq_getElem?_getD,List.getElem?_eq_getElem hj]at e
 simp only[XaI]at e
 simp at c;omega
theorem Qb7{s:List UInt8}(h:s.length<=1000000000):zAc 106 [.d (.s s)] [.d (.b (YY s))] []:=by
 refine zAC func106 fun w0 Z=>?_
 repeat'(first|(refine zhm fun hb=>?_;try exact zab)|refine zUtp ?_|refine zg2 ?_ ?_|refine zqj Qun ?_|refine kc (QgG (by omega)) rfl rfl ?_|intro _)
 ·refine zr [] ?_ ?_
  repeat'(first|exact ze3|refine ze2 ?_ ?_|refine ze4 ?_|exact ze5|fail)
  refine zp ?_
  have e:=Qq1 s
  have a:decide (1<=s.length)=true:=decide_eq_true (by omega)
  have c:decide (s.length<=200)=true:=decide_eq_true (by omega)
  rw[YY,a,c,Xbw,Xbw,Xam,<-e,beq_iff_eq]
  omega
 ·refine zr [] ?_ ?_
  repeat'(first|exact ze3|refine ze2 ?_ ?_|refine ze4 ?_|exact ze5|fail)
  refine zp ?_
  have a:(decide (1<=s.length)&&decide (s.length<=200))=false:=by
   rw[Bool.and_eq_false_iff,decide_eq_false_iff_not,decide_eq_false_iff_not]
   omega
  rw[YY,a,Xb7]
theorem Zz{s:List UInt8}(h:s.length<=1000000000):zAc 290 [.d (.s s)] [.d (.b (YY s))] []:=by
 refine zAC func290 fun w0 Z=>?_
 repeat'(first|(refine zhm fun hb=>?_;try exact zab)|refine zUtp ?_|refine zg2 ?_ ?_|intro _)
 refine Qa (fun(i:Nat)=>⟨22,[(0,.d (.s s)),(3,zI i)],[]⟩) (fun i=>i<=s.length/\∀j,j<i->((s.getD j 0).toNat:Int)≠10) (fun i=>s.length-i) 0 ⟨by omega,fun j hj=>absurd hj (by omega)⟩ ?_ ?_
 ·refine⟨rfl,?_,?_,rfl⟩
  repeat'(first|exact ze3|refine ze2 ?_ ?_|refine ze4 ?_|exact ze5|fail)
 ·intro i ⟨hi,hj⟩
  repeat'(first|(refine zhm fun hb=>?_;try exact zab)|refine zUtp ?_|refine zg2 ?_ ?_|intro _)
  ·refine zr [] ?_ ?_
   repeat'(first|exact ze3|refine ze2 ?_ ?_|refine ze4 ?_|exact ze5|fail)
   exact zp (QlL (by omega) hb).symm
  ·refine⟨i+1,⟨by omega,fun j hj'=>?_⟩,by omega,?_⟩
   ·rcases XbS.1 hj' with h1|rfl
    ·exact hj j h1
    ·exact hb
   ·refine⟨rfl,?_,?_,rfl⟩
    repeat'(first|exact ze3|refine ze2 ?_ ?_|refine ze4 ?_|exact ze5|fail)
  ·obtain rfl:i=s.length:=by omega
   refine zr [] ?_ ?_
   repeat'(first|exact ze3|refine ze2 ?_ ?_|refine ze4 ?_|exact ze5|fail)
   refine zp ?_
   rw[YY,Qik hj,Bool.and_true]
   have a:decide (1<=s.length)=true:=decide_eq_true (by omega)
   rw[a,Xbw]
   exact decide_eq_decide.2 (by omega)
  ·obtain rfl:i=s.length:=by omega
   refine zr [] ?_ ?_
   repeat'(first|exact ze3|refine ze2 ?_ ?_|refine ze4 ?_|exact ze5|fail)
   refine zp ?_
   rw[YY]
   have a:decide (1<=s.length)=false:=decide_eq_false (by omega)
   rw[a,Xb7,Xb7]
end
end Go.Proofs.YtkdniahincpmaaaGreat
