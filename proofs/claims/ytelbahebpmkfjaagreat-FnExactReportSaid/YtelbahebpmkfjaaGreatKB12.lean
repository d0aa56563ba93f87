/-
  The law's marks in slices of plain elements: what is written, and that it is held.
-/
import Derived.Test.YtelbahebpmkfjaaGreatKB5
import Derived.Test.YtelbahebpmkfjaaGreatKGlA
import Derived.Test.YtelbahebpmkfjaaGreatKB7
set_option maxRecDepth 100000
set_option maxHeartbeats 16000000
namespace Go.Proofs.YtelbahebpmkfjaaGreat
open Go Go.RowKit
attribute [local irreducible] AWp Qat OpOk ACalls ChA QsOk MCalls EnC PY
def gI (k j:Nat):Int:=((k+1 * j:Nat):Int)
def gN (k j:Nat):Node:=⟨((k+4 * j:Nat):Int),⟨((k+4 * j+1:Nat):Int),((k+4 * j+1+1:Nat):Int),((k+4 * j+1+1+1:Nat):Int)⟩⟩
def gJ (k j:Nat):Job:=⟨((k+11 * j:Nat):Int),((k+11 * j+1:Nat):Int),((k+11 * j+2:Nat):Int),⟨((k+11 * j+3:Nat):Int),((k+11 * j+4:Nat):Int),((k+11 * j+5:Nat):Int)⟩,⟨((k+11 * j+6:Nat):Int),((k+11 * j+7:Nat):Int),((k+11 * j+8:Nat):Int)⟩,((k+11 * j+9:Nat):Int),((k+11 * j+10:Nat):Int)⟩
def gE (k j:Nat):EndS:=⟨((k+3 * j:Nat):Int),((k+3 * j+1:Nat):Int),((k+3 * j+1+1:Nat):Int)⟩
theorem Qmv {l:List Node} {k:Nat} (h:l.length≤1000000000) (hk:k≤10000000000000000):MCalls Tryz.prog 174 [.row 1000000,.d (.n .i64 k)] [(1000000,.row 255 (QaD l) true)] (fun (_:Unit)=>True) (fun _=>[.d (.n .i64 ((k+4 * l.length:Nat):Int))]) (fun _=>[(1000000,.row 255 (QaD (QbV (gN k) l.length)) true)]) (fun _=>[]):=by
 refine Qag tt Tryz.func174 rfl rfl rfl ⟨.inl rfl,trivial⟩ (fun _ _=>⟨⟨⟨rfl,rfl,(Qby (f:=(fun (n:Node)=>([.n .i64 n.leaf,.n .i64 n.cap.a,.n .i64 n.cap.b,.n .i64 n.cap.c]:List D))) (z:=4) (fun _=>rfl) (QaL _ _)).symm⟩,trivial⟩,.inl rfl,trivial⟩) (fun w0 Z O=>?_)
 repeat' (first|refine zst ?_|(refine zhm fun hb=>?_;try exact zab)|refine zg2 ?_ ?_|refine zln fun _=>?_|refine zop ?_|fail)
 refine Qae (fun (i:Nat)=>⟨44,[(0,.row 1000000),(1,.d (.n .i64 ((k+4 * i:Nat):Int))),(5,.d (.n .i64 i))],[(1000000,.row 255 (QaD (mkL (gN k) l i)) true)]⟩) (fun i=>i≤l.length) (fun i=>l.length - i) 0 (by omega) ?_ ?_
 ·refine ⟨rfl,?_,?_,rfl⟩
  repeat'(first|apply And.intro|exact ze0|refine ze1 ?_|refine zei ?_ ?_|exact rfl|trivial)
  all_goals exact Stop.mk (by first|rfl)
 ·intro i hi
  have hl2:(QaD (mkL (gN k) l i)).length=l.length:=by rw [QaD,List.length_map,QbR (gN k) l hi]
  have hl3:=QbR (gN k) l hi
  repeat' (first|refine zst ?_|(refine zhm fun hb=>?_;try exact zab)|refine zg2 ?_ ?_|(apply Qcj;first|(refine Qei rfl rfl rfl rfl rfl hl2 (by omega) rfl rfl rfl rfl ?_)|(refine Qds rfl rfl rfl rfl rfl hl2 (by omega) (QeK (by omega)) rfl rfl rfl rfl ?_))|refine zln fun _=>?_|refine zop ?_|fail)
  ·refine ⟨i+1,by omega,by omega,?_⟩
   refine ⟨rfl,?_,?_,rfl⟩
   repeat'(first|apply And.intro|exact ze0|refine ze1 ?_|refine zei ?_ ?_|exact rfl|trivial)
   all_goals exact Stop.mk (by first|rfl|exact QiA (f:=(fun (n:Node)=>([.n .i64 n.leaf,.n .i64 n.cap.a,.n .i64 n.cap.b,.n .i64 n.cap.c]:List D))) (by omega))
  ·obtain rfl:i=l.length:=by omega
   refine zm () [] (by exact trivial) ?_ ?_ ?_
   repeat'(first|apply And.intro|exact ze0|refine ze1 ?_|refine zei ?_ ?_|exact rfl|trivial)
   all_goals exact Stop.mk (by first|rfl|rw [Qiz])
theorem Qpp {l:List Job} {k:Nat} (h:l.length≤1000000000) (hk:k≤10000000000000000):MCalls Tryz.prog 88 [.row 1000000,.d (.n .i64 k)] [(1000000,.row 78 (jobE l) true)] (fun (_:Unit)=>True) (fun _=>[.d (.n .i64 ((k+11 * l.length:Nat):Int))]) (fun _=>[(1000000,.row 78 (jobE (QbV (gJ k) l.length)) true)]) (fun _=>[]):=by
 refine Qag tt Tryz.func88 rfl rfl rfl ⟨.inl rfl,trivial⟩ (fun _ _=>⟨⟨⟨rfl,rfl,(Qby (f:=jobD) (z:=11) (fun _=>rfl) (QaL _ _)).symm⟩,trivial⟩,.inl rfl,trivial⟩) (fun w0 Z O=>?_)
 repeat' (first|refine zst ?_|(refine zhm fun hb=>?_;try exact zab)|refine zg2 ?_ ?_|refine zln fun _=>?_|refine zop ?_|fail)
 refine Qae (fun (i:Nat)=>⟨96,[(0,.row 1000000),(1,.d (.n .i64 ((k+11 * i:Nat):Int))),(5,.d (.n .i64 i))],[(1000000,.row 78 (jobE (mkL (gJ k) l i)) true)]⟩) (fun i=>i≤l.length) (fun i=>l.length - i) 0 (by omega) ?_ ?_
 ·refine ⟨rfl,?_,?_,rfl⟩
  repeat'(first|apply And.intro|exact ze0|refine ze1 ?_|refine zei ?_ ?_|exact rfl|trivial)
  all_goals exact Stop.mk (by first|rfl)
 ·intro i hi
  have hl2:(jobE (mkL (gJ k) l i)).length=l.length:=by rw [jobE,List.length_map,QbR (gJ k) l hi]
  have hl3:=QbR (gJ k) l hi
  repeat' (first|refine zst ?_|(refine zhm fun hb=>?_;try exact zab)|refine zg2 ?_ ?_|(apply Qcj;first|(refine Qei rfl rfl rfl rfl rfl hl2 (by omega) rfl rfl rfl rfl ?_)|(refine Qds rfl rfl rfl rfl rfl hl2 (by omega) (QeK (by omega)) rfl rfl rfl rfl ?_))|refine zln fun _=>?_|refine zop ?_|fail)
  ·refine ⟨i+1,by omega,by omega,?_⟩
   refine ⟨rfl,?_,?_,rfl⟩
   repeat'(first|apply And.intro|exact ze0|refine ze1 ?_|refine zei ?_ ?_|exact rfl|trivial)
   all_goals exact Stop.mk (by first|rfl|exact QiA (f:=jobD) (by omega))
  ·obtain rfl:i=l.length:=by omega
   refine zm () [] (by exact trivial) ?_ ?_ ?_
   repeat'(first|apply And.intro|exact ze0|refine ze1 ?_|refine zei ?_ ?_|exact rfl|trivial)
   all_goals exact Stop.mk (by first|rfl|rw [Qiz])
theorem QpH {l:List EndS} {k:Nat} (h:l.length≤1000000000) (hk:k≤10000000000000000):MCalls Tryz.prog 90 [.row 1000000,.d (.n .i64 k)] [(1000000,.row 150 (endE l) true)] (fun (_:Unit)=>True) (fun _=>[.d (.n .i64 ((k+3 * l.length:Nat):Int))]) (fun _=>[(1000000,.row 150 (endE (QbV (gE k) l.length)) true)]) (fun _=>[]):=by
 refine Qag tt Tryz.func90 rfl rfl rfl ⟨.inl rfl,trivial⟩ (fun _ _=>⟨⟨⟨rfl,rfl,(Qby (f:=(fun (e:EndS)=>([.n .i64 e.id,.n .i64 e.at',.n .i64 e.why]:List D))) (z:=3) (fun _=>rfl) (QaL _ _)).symm⟩,trivial⟩,.inl rfl,trivial⟩) (fun w0 Z O=>?_)
 repeat' (first|refine zst ?_|(refine zhm fun hb=>?_;try exact zab)|refine zg2 ?_ ?_|refine zln fun _=>?_|refine zop ?_|fail)
 refine Qae (fun (i:Nat)=>⟨34,[(0,.row 1000000),(1,.d (.n .i64 ((k+3 * i:Nat):Int))),(5,.d (.n .i64 i))],[(1000000,.row 150 (endE (mkL (gE k) l i)) true)]⟩) (fun i=>i≤l.length) (fun i=>l.length - i) 0 (by omega) ?_ ?_
 ·refine ⟨rfl,?_,?_,rfl⟩
  repeat'(first|apply And.intro|exact ze0|refine ze1 ?_|refine zei ?_ ?_|exact rfl|trivial)
  all_goals exact Stop.mk (by first|rfl)
 ·intro i hi
  have hl2:(endE (mkL (gE k) l i)).length=l.length:=by rw [endE,List.length_map,QbR (gE k) l hi]
  have hl3:=QbR (gE k) l hi
  repeat' (first|refine zst ?_|(refine zhm fun hb=>?_;try exact zab)|refine zg2 ?_ ?_|(apply Qcj;first|(refine Qei rfl rfl rfl rfl rfl hl2 (by omega) rfl rfl rfl rfl ?_)|(refine Qds rfl rfl rfl rfl rfl hl2 (by omega) (QeK (by omega)) rfl rfl rfl rfl ?_))|refine zln fun _=>?_|refine zop ?_|fail)
  ·refine ⟨i+1,by omega,by omega,?_⟩
   refine ⟨rfl,?_,?_,rfl⟩
   repeat'(first|apply And.intro|exact ze0|refine ze1 ?_|refine zei ?_ ?_|exact rfl|trivial)
   all_goals exact Stop.mk (by first|rfl|exact QiA (f:=(fun (e:EndS)=>([.n .i64 e.id,.n .i64 e.at',.n .i64 e.why]:List D))) (by omega))
  ·obtain rfl:i=l.length:=by omega
   refine zm () [] (by exact trivial) ?_ ?_ ?_
   repeat'(first|apply And.intro|exact ze0|refine ze1 ?_|refine zei ?_ ?_|exact rfl|trivial)
   all_goals exact Stop.mk (by first|rfl|rw [Qiz])
theorem QmL {n k:Nat} (h:n≤1000000000) (hk:k≤10000000000000000):ACalls Tryz.prog 194 [.d (.sl (QaD (QbV (gN k) n))),.d (.n .i64 k)] [.d (.n .i64 ((k+4 * n:Nat):Int))] []:=by
  refine Qaa tt Tryz.func194 rfl rfl rfl (fun w0 Z=>?_)
  have hl:=QaL (gN k) n
  repeat' (first|refine zst ?_|(refine zhm fun hb=>?_;try exact zab)|refine zg2 ?_ ?_|refine zln fun _=>?_|refine zop ?_|fail)
  refine Qae (fun (i:Nat)=>⟨52,[(0,.d (.sl (QaD (QbV (gN k) n)))),(1,.d (.n .i64 ((k+4 * i:Nat):Int))),(5,.d (.n .i64 i))],[]⟩) (fun i=>i≤n) (fun i=>n - i) 0 (by omega) ?_ ?_
  · exact ⟨rfl,zae,zae,rfl⟩
  · intro i hi
    repeat' (first|refine zst ?_|(refine zhm fun hb=>?_;try exact zab)|refine zg2 ?_ ?_|refine zln fun _=>?_|refine zop ?_|fail)
    all_goals first
      | (exact absurd (by rw [Qez (by omega)];rfl) hb)
      | (refine ⟨i+1,by omega,by omega,?_⟩
         refine ⟨rfl,?_,?_,rfl⟩
         repeat'(first|apply And.intro|exact ze0|refine ze1 ?_|refine zei ?_ ?_|exact rfl|trivial)
         all_goals exact Stop.mk rfl)
      | (obtain rfl:i=n:=by omega
         refine zr [] ?_ ?_
         repeat'(first|apply And.intro|exact ze0|refine ze1 ?_|refine zei ?_ ?_|exact rfl|trivial)
         all_goals exact Stop.mk rfl)
theorem Qps {n k:Nat} (h:n≤1000000000) (hk:k≤10000000000000000):ACalls Tryz.prog 112 [.d (.sl (jobE (QbV (gJ k) n))),.d (.n .i64 k)] [.d (.n .i64 ((k+11 * n:Nat):Int))] []:=by
  refine Qaa tt Tryz.func112 rfl rfl rfl (fun w0 Z=>?_)
  have hl:=QaL (gJ k) n
  repeat' (first|refine zst ?_|(refine zhm fun hb=>?_;try exact zab)|refine zg2 ?_ ?_|refine zln fun _=>?_|refine zop ?_|fail)
  refine Qae (fun (i:Nat)=>⟨118,[(0,.d (.sl (jobE (QbV (gJ k) n)))),(1,.d (.n .i64 ((k+11 * i:Nat):Int))),(5,.d (.n .i64 i))],[]⟩) (fun i=>i≤n) (fun i=>n - i) 0 (by omega) ?_ ?_
  · exact ⟨rfl,zae,zae,rfl⟩
  · intro i hi
    repeat' (first|refine zst ?_|(refine zhm fun hb=>?_;try exact zab)|refine zg2 ?_ ?_|refine zln fun _=>?_|refine zop ?_|fail)
    all_goals first
      | (exact absurd (by rw [Qez (by omega)];rfl) hb)
      | (refine ⟨i+1,by omega,by omega,?_⟩
         refine ⟨rfl,?_,?_,rfl⟩
         repeat'(first|apply And.intro|exact ze0|refine ze1 ?_|refine zei ?_ ?_|exact rfl|trivial)
         all_goals exact Stop.mk rfl)
      | (obtain rfl:i=n:=by omega
         refine zr [] ?_ ?_
         repeat'(first|apply And.intro|exact ze0|refine ze1 ?_|refine zei ?_ ?_|exact rfl|trivial)
         all_goals exact Stop.mk rfl)
theorem Qpq {n k:Nat} (h:n≤1000000000) (hk:k≤10000000000000000):ACalls Tryz.prog 114 [.d (.sl (endE (QbV (gE k) n))),.d (.n .i64 k)] [.d (.n .i64 ((k+3 * n:Nat):Int))] []:=by
  refine Qaa tt Tryz.func114 rfl rfl rfl (fun w0 Z=>?_)
  have hl:=QaL (gE k) n
  repeat' (first|refine zst ?_|(refine zhm fun hb=>?_;try exact zab)|refine zg2 ?_ ?_|refine zln fun _=>?_|refine zop ?_|fail)
  refine Qae (fun (i:Nat)=>⟨40,[(0,.d (.sl (endE (QbV (gE k) n)))),(1,.d (.n .i64 ((k+3 * i:Nat):Int))),(5,.d (.n .i64 i))],[]⟩) (fun i=>i≤n) (fun i=>n - i) 0 (by omega) ?_ ?_
  · exact ⟨rfl,zae,zae,rfl⟩
  · intro i hi
    repeat' (first|refine zst ?_|(refine zhm fun hb=>?_;try exact zab)|refine zg2 ?_ ?_|refine zln fun _=>?_|refine zop ?_|fail)
    all_goals first
      | (exact absurd (by rw [Qez (by omega)];rfl) hb)
      | (refine ⟨i+1,by omega,by omega,?_⟩
         refine ⟨rfl,?_,?_,rfl⟩
         repeat'(first|apply And.intro|exact ze0|refine ze1 ?_|refine zei ?_ ?_|exact rfl|trivial)
         all_goals exact Stop.mk rfl)
      | (obtain rfl:i=n:=by omega
         refine zr [] ?_ ?_
         repeat'(first|apply And.intro|exact ze0|refine ze1 ?_|refine zei ?_ ?_|exact rfl|trivial)
         all_goals exact Stop.mk rfl)
theorem QgI {n k:Nat} (h:n≤1000000000) (hk:k≤10000000000000000):ACalls Tryz.prog 92 [.d (.sl (intE (QbV (gI k) n))),.d (.n .i64 k)] [.d (.n .i64 ((k+1 * n:Nat):Int))] []:=by
  refine Qaa tt Tryz.func92 rfl rfl rfl (fun w0 Z=>?_)
  have hl:=QaL (gI k) n
  repeat' (first|refine zst ?_|(refine zhm fun hb=>?_;try exact zab)|refine zg2 ?_ ?_|refine zln fun _=>?_|refine zop ?_|fail)
  refine Qae (fun (i:Nat)=>⟨21,[(0,.d (.sl (intE (QbV (gI k) n)))),(1,.d (.n .i64 ((k+1 * i:Nat):Int))),(5,.d (.n .i64 i))],[]⟩) (fun i=>i≤n) (fun i=>n - i) 0 (by omega) ?_ ?_
  · exact ⟨rfl,zae,zae,rfl⟩
  · intro i hi
    repeat' (first|refine zst ?_|(refine zhm fun hb=>?_;try exact zab)|refine zg2 ?_ ?_|refine zln fun _=>?_|refine zop ?_|fail)
    all_goals first
      | (exact absurd (by rw [Qez (by omega)];rfl) hb)
      | (refine ⟨i+1,by omega,by omega,?_⟩
         refine ⟨rfl,?_,?_,rfl⟩
         repeat'(first|apply And.intro|exact ze0|refine ze1 ?_|refine zei ?_ ?_|exact rfl|trivial)
         all_goals exact Stop.mk rfl)
      | (obtain rfl:i=n:=by omega
         refine zr [] ?_ ?_
         repeat'(first|apply And.intro|exact ze0|refine ze1 ?_|refine zei ?_ ?_|exact rfl|trivial)
         all_goals exact Stop.mk rfl)
end Go.Proofs.YtelbahebpmkfjaaGreat
namespace Go.Proofs.YtelbahebpmkfjaaGreat
open Go Go.RowKit
attribute [local irreducible] AWp Qat OpOk ACalls ChA QsOk MCalls EnC PY
def mR (k:Nat) (r:Run):Run:=⟨⟨(k:Int),((k+1:Nat):Int),((k+2:Nat):Int),⟨((k+3:Nat):Int),((k+4:Nat):Int),((k+5:Nat):Int)⟩,⟨((k+6:Nat):Int),((k+7:Nat):Int),((k+8:Nat):Int)⟩,((k+9:Nat):Int),((k+10:Nat):Int)⟩,((k+11:Nat):Int),QbV (gI (k+12)) r.nodes.length⟩
section
variable {α:Type} (m:Nat→α→α) (w:α→Nat)
def mSq:Nat→List α→List α
 | _,[]=>[]
 | k,r::l=>m k r::mSq (k+w r) l
def kSq:Nat→List α→Nat
 | k,[]=>k
 | k,r::l=>kSq (k+w r) l
theorem Qdm:∀(k:Nat) (l:List α),(mSq m w k l).length=l.length
 | _,[]=>rfl
 | k,r::l=>by rw [mSq,List.length_cons,Qdm,List.length_cons]
def mxS (k:Nat) (l:List α) (j:Nat):List α:=mSq m w k (l.take j)++l.drop j
def kAtS (k:Nat) (l:List α) (j:Nat):Nat:=kSq w k (l.take j)
theorem Qvw (k:Nat) (l:List α):mxS m w k l l.length=mSq m w k l:=by simp [mxS]
theorem QsM (k:Nat) (l:List α):kAtS w k l l.length=kSq w k l:=by simp [kAtS]
theorem Qpo {k:Nat} {l:List α} {j:Nat} (h:j≤l.length):(mxS m w k l j).length=l.length:=by simp [mxS,Qdm];omega
theorem QvV [Inhabited α] {k:Nat} {l:List α} {j:Nat} (h:j<l.length):nth (mxS m w k l j) j=nth l j:=by
 have:(mxS m w k l j)[j]?=l[j]?:=by
  unfold mxS
  rw [List.getElem?_append_right (by rw [Qdm,List.length_take];omega),List.getElem?_drop,Qdm,List.length_take]
  congr 1;omega
 simp only [nth,List.getD_eq_getElem?_getD,this]
theorem Qro [Inhabited α]:∀(k:Nat) (l:List α) (j:Nat),j<l.length→mSq m w k (l.take (j+1))=mSq m w k (l.take j)++[m (kAtS w k l j) (nth l j)]∧kAtS w k l (j+1)=kAtS w k l j+w (nth l j)
 | _,[],j,h=>absurd h (Nat.not_lt_zero _)
 | k,r::l,0,_=>by simp [mSq,kAtS,kSq,nth]
 | k,r::l,j+1,h=>by
  obtain ⟨h1,h2⟩:=Qro (k+w r) l j (by simpa using h)
  have e:nth (r::l) (j+1)=nth l j:=by simp [nth]
  constructor
  ·rw [List.take_succ_cons,mSq,h1,List.take_succ_cons,mSq,e];rfl
  ·rw [e];exact h2
theorem Qwg [Inhabited α] {f:α→List D} {k:Nat} {l:List α} {j:Nat} (h:j<l.length):((mxS m w k l j).map f).set j (f (m (kAtS w k l j) (nth l j)))=(mxS m w k l (j+1)).map f:=by
 have hl:(mSq m w k (l.take j)).length=j:=by rw [Qdm,List.length_take];omega
 have hd:l.drop j=nth l j::l.drop (j+1):=by
  rw [List.drop_eq_getElem_cons h]
  simp [nth,h]
 unfold mxS
 rw [(Qro m w k l j h).1,hd,List.map_append,List.map_cons,List.set_append_right _ _ (by rw [List.length_map,hl];exact Nat.le_refl _),List.length_map,hl,Nat.sub_self,List.set_cons_zero]
 simp
theorem Qqi [Inhabited α]:∀(k:Nat) (l:List α) (j:Nat),j<l.length→nth (mSq m w k l) j=m (kAtS w k l j) (nth l j)
 | _,[],j,h=>absurd h (Nat.not_lt_zero _)
 | k,r::l,0,_=>by simp [mSq,kAtS,kSq,nth]
 | k,r::l,j+1,h=>by
  have:=Qqi (k+w r) l j (by simpa using h)
  have e:nth (r::l) (j+1)=nth l j:=by simp [nth]
  have e2:nth (mSq m w k (r::l)) (j+1)=nth (mSq m w (k+w r) l) j:=by simp [nth,mSq]
  rw [e,e2]
  exact this
theorem Qu3 {c:Nat}:∀{l:List α} {k:Nat},(∀r∈l,w r≤c)→k≤kSq w k l∧kSq w k l≤k+c * l.length
 | [],k,_=>⟨Nat.le_refl _,Nat.le_refl _⟩
 | r::l,k,h=>by
  obtain ⟨h1,h2⟩:=Qu3 (c:=c) (l:=l) (k:=k+w r) fun q hq=>h q (List.mem_cons_of_mem _ hq)
  have:=h r List.mem_cons_self
  rw [List.length_cons,Nat.mul_succ]
  exact ⟨Nat.le_trans (Nat.le_add_right _ _) h1,by simp only [kSq];omega⟩
theorem QvW [Inhabited α] {c:Nat} {l:List α} {k j:Nat} (h:∀j,j<l.length→w (nth l j)≤c) (hl:l.length≤1048576):k≤kAtS w k l j∧kAtS w k l j≤k+c * 1048576:=by
 have h1:∀r∈l.take j,w r≤c:=fun r hr=>by
  obtain ⟨i,hi,rfl⟩:=List.getElem_of_mem (List.mem_of_mem_take hr)
  have:=h i hi
  simpa [nth,hi] using this
 obtain ⟨h2,h3⟩:=Qu3 w (k:=k) h1
 have:(l.take j).length≤1048576:=by rw [List.length_take];omega
 exact ⟨h2,Nat.le_trans h3 (Nat.add_le_add_left (Nat.mul_le_mul_left c this) k)⟩
end
theorem Qw1 {α:Type} [Inhabited α] {l:List α} {j:Nat} (h:j<l.length):l[j]?=some (nth l j):=by simp [nth,h]
@[reducible] def wR (r:Run):Nat:=12+r.nodes.length
@[reducible] def mRs (k:Nat) (l:List Run):List Run:=mSq mR wR k l
@[reducible] def kR (k:Nat) (l:List Run):Nat:=kSq wR k l
@[reducible] def mxR (k:Nat) (l:List Run) (j:Nat):List Run:=mxS mR wR k l j
@[reducible] def kAt (k:Nat) (l:List Run) (j:Nat):Nat:=kAtS wR k l j
theorem Qd8 (k:Nat) (l:List Run):(mRs k l).length=l.length:=Qdm mR wR k l
theorem Qv4 (k:Nat) (l:List Run):mxR k l l.length=mRs k l:=Qvw mR wR k l
theorem QmH (k:Nat) (l:List Run):kAt k l l.length=kR k l:=QsM wR k l
theorem Qpz {k:Nat} {l:List Run} {j:Nat} (h:j≤l.length):(mxR k l j).length=l.length:=Qpo mR wR h
theorem Qwh {k:Nat} {l:List Run} {j:Nat} (h:j<l.length):nth (mxR k l j) j=nth l j:=QvV mR wR h
theorem QuR (k:Nat) (l:List Run) (j:Nat) (h:j<l.length):mRs k (l.take (j+1))=mRs k (l.take j)++[mR (kAt k l j) (nth l j)]∧kAt k l (j+1)=kAt k l j+12+(nth l j).nodes.length:=by
 obtain ⟨h1,h2⟩:=Qro mR wR k l j h
 exact ⟨h1,by rw [show kAt k l (j+1)=kAt k l j+(12+(nth l j).nodes.length) from h2];omega⟩
theorem Qv2 {k:Nat} {l:List Run} {j:Nat} (h:j<l.length):(runE (mxR k l j)).set j (runD (mR (kAt k l j) (nth l j)))=runE (mxR k l (j+1)):=Qwg mR wR (f:=runD) h
theorem Qvv (k:Nat) (l:List Run) (j:Nat) (h:j<l.length):nth (mRs k l) j=mR (kAt k l j) (nth l j):=Qqi mR wR k l j h
theorem Qqs {l:List Run} {k j:Nat} (h:∀j,j<l.length→(nth l j).nodes.length≤1048576) (hl:l.length≤1048576):k≤kAt k l j∧kAt k l j≤k+1099524276288:=by
 have:=QvW wR (c:=1048588) (k:=k) (j:=j) (fun i hi=>by have:=h i hi;simp only [wR];omega) hl
 have e:kAtS wR k l j=kAt k l j:=rfl
 rw [e] at this
 omega
theorem Qjf {e':TypeId} (he:(Tryz.prog.info? e').map (·.size)=some 1) {l:List Int} {k:Nat} (h:l.length≤1000000000) (hk:k≤10000000000000000):MCalls Tryz.prog 91 [.row 1000000,.d (.n .i64 k)] [(1000000,.row e' (intE l) true)] (fun (_:Unit)=>True) (fun _=>[.d (.n .i64 ((k+1 * l.length:Nat):Int))]) (fun _=>[(1000000,.row e' (intE (QbV (gI k) l.length)) true)]) (fun _=>[]):=by
 refine Qag tt Tryz.func91 rfl rfl rfl ⟨.inl rfl,trivial⟩ (fun _ _=>⟨⟨⟨rfl,rfl,(Qby (f:=(fun (x:Int)=>([.n .i64 x]:List D))) (z:=1) (fun _=>rfl) (QaL _ _)).symm⟩,trivial⟩,.inl rfl,trivial⟩) (fun w0 Z O=>?_)
 repeat' (first|refine zst ?_|(refine zhm fun hb=>?_;try exact zab)|refine zg2 ?_ ?_|refine zln fun _=>?_|refine zop ?_|fail)
 refine Qae (fun (i:Nat)=>⟨19,[(0,.row 1000000),(1,.d (.n .i64 ((k+1 * i:Nat):Int))),(5,.d (.n .i64 i))],[(1000000,.row e' (intE (mkL (gI k) l i)) true)]⟩) (fun i=>i≤l.length) (fun i=>l.length - i) 0 (by omega) ?_ ?_
 ·refine ⟨rfl,?_,?_,rfl⟩
  repeat'(first|apply And.intro|exact ze0|refine ze1 ?_|refine zei ?_ ?_|exact rfl|trivial)
  all_goals exact Stop.mk (by first|rfl)
 ·intro i hi
  have hl2:(intE (mkL (gI k) l i)).length=l.length:=by rw [intE,List.length_map,QbR (gI k) l hi]
  have hl3:=QbR (gI k) l hi
  repeat' (first|refine zst ?_|(refine zhm fun hb=>?_;try exact zab)|refine zg2 ?_ ?_|(apply Qcj;first|(refine QOk.ok (QsX (e:=3) rfl rfl rfl rfl rfl he rfl rfl hl2 (by omega) rfl ?_))|(refine Qds rfl rfl rfl rfl rfl hl2 (by omega) (QeK (by omega)) rfl rfl rfl rfl ?_))|refine zln fun _=>?_|refine zop ?_|fail)
  ·refine ⟨i+1,by omega,by omega,?_⟩
   refine ⟨rfl,?_,?_,rfl⟩
   repeat'(first|apply And.intro|exact ze0|refine ze1 ?_|refine zei ?_ ?_|exact rfl|trivial)
   all_goals exact Stop.mk (by first|rfl|exact QiA (f:=(fun (x:Int)=>([.n .i64 x]:List D))) (by omega))
  ·obtain rfl:i=l.length:=by omega
   refine zm () [] (by exact trivial) ?_ ?_ ?_
   repeat'(first|apply And.intro|exact ze0|refine ze1 ?_|refine zei ?_ ?_|exact rfl|trivial)
   all_goals exact Stop.mk (by first|rfl|rw [Qiz])
theorem Qff {k:Nat}:ACalls Tryz.prog 91 [.d (.sl []),.d (.n .i64 k)] [.d (.n .i64 k)] []:=by
 refine Qaa tt Tryz.func91 rfl rfl rfl (fun w0 Z=>?_)
 repeat' (first|refine zst ?_|(refine zhm fun hb=>?_;try exact zab)|refine zg2 ?_ ?_|refine zln fun _=>?_|refine zop ?_|fail)
 refine Qae (fun (_:Unit)=>⟨19,[(0,.d (.sl [])),(1,.d (.n .i64 k)),(5,.d (.n .i64 0))],[]⟩) (fun _=>True) (fun _=>0) () trivial ?_ ?_
 ·exact ⟨rfl,zae,zae,rfl⟩
 ·intro i hi
  repeat' (first|refine zst ?_|(refine zhm fun hb=>?_;try exact zab)|refine zg2 ?_ ?_|refine zln fun _=>?_|refine zop ?_|fail)
  exact zr [] zae zae
end Go.Proofs.YtelbahebpmkfjaaGreat
namespace Go.Proofs.YtelbahebpmkfjaaGreat
open Go Go.RowKit
attribute [local irreducible] AWp Qat OpOk ACalls ChA QsOk MCalls EnC PY
theorem QnZ {l:List Int}:(∀q∈intE l,q.length=1):=fun q hq=>by
 obtain ⟨x,_,rfl⟩:=List.mem_map.1 hq
 rfl
theorem Qo4 {l:List Run} {k:Nat} (h:l.length≤1048576) (hr:∀j,j<l.length→(nth l j).nodes.length≤1048576) (hk:k≤1000000000000000):MCalls Tryz.prog 89 [.row 1000000,.d (.n .i64 k)] [(1000000,.row 148 (runE l) true)] (fun (_:Unit)=>True) (fun _=>[.d (.n .i64 ((kR k l:Nat):Int))]) (fun _=>[(1000000,.row 148 (runE (mRs k l)) true)]) (fun _=>[]):=by
 refine Qag tt Tryz.func89 rfl rfl rfl ⟨.inl rfl,trivial⟩ (fun _ _=>⟨⟨⟨rfl,rfl,(Qby (f:=runD) (z:=13) (fun _=>rfl) (Qd8 _ _)).symm⟩,trivial⟩,.inl rfl,trivial⟩) (fun w0 Z O=>?_)
 repeat' (first|refine zst ?_|(refine zhm fun hb=>?_;try exact zab)|refine zg2 ?_ ?_|refine zln fun _=>?_|refine zop ?_|fail)
 refine Qae (fun (i:Nat)=>⟨121,[(0,.row 1000000),(1,.d (.n .i64 ((kAt k l i:Nat):Int))),(5,.d (.n .i64 i))],[(1000000,.row 148 (runE (mxR k l i)) true)]⟩) (fun i=>i≤l.length) (fun i=>l.length - i) 0 (by omega) ?_ ?_
 ·refine ⟨rfl,?_,?_,rfl⟩
  repeat'(first|apply And.intro|exact ze0|refine ze1 ?_|refine zei ?_ ?_|exact rfl|trivial)
  all_goals exact Stop.mk (by first|rfl)
 ·intro i hi
  have hl3:=Qpz (k:=k) hi
  have hl2:(runE (mxR k l i)).length=l.length:=by rw [Qah,hl3]
  by_cases hi':i<l.length
  ·have hat:=Qnc (l:=mxR k l i) (j:=i) (by omega)
   rw [Qwh hi'] at hat
   have hka:=Qqs (k:=k) (j:=i) hr h
   have hnl:=hr i hi'
   have hst:=(QuR k l i hi').2
   repeat' (first|(refine Qma (z1:=1) (es1:=intE (nth l i).nodes) (es2:=intE (QbV (gI (kAt k l i+12)) (nth l i).nodes.length)) (kv:=((kAt k l i+12:Nat):Int)) (kr:=((kAt k l i+12+1 * (nth l i).nodes.length:Nat):Int)) rfl rfl rfl rfl rfl rfl (List.getElem?_set_self (by omega)) rfl rfl rfl rfl rfl rfl (by intro k h;injection h with h;subst h;rfl) rfl rfl rfl rfl rfl rfl QnZ (QaG fun _=>rfl) (QaG fun _=>rfl) (by rw [QeI,QeI,QaL]) (fun _ e' he=>Qjf he (by omega) (by omega)) (fun he=>by rw [show (nth l i).nodes.length=0 from by rw [←QeI,he];rfl];exact Qff) ?_)|refine zst ?_|(refine zhm fun hb=>?_;try exact zab)|refine zg2 ?_ ?_|(apply Qcj;first|(refine Qei rfl rfl rfl rfl rfl hl2 (by omega) rfl rfl rfl rfl ?_)|(refine Qds rfl rfl rfl rfl rfl hl2 (by omega) hat rfl rfl rfl rfl ?_))|refine zln fun _=>?_|refine zop ?_|fail)
   refine ⟨i+1,by omega,by omega,?_⟩
   refine ⟨rfl,?_,?_,rfl⟩
   repeat'(first|apply And.intro|exact ze0|refine ze1 ?_|refine zei ?_ ?_|exact rfl|trivial)
   all_goals exact Stop.mk (by first|rfl|exact (List.set_set ..).trans (Qv2 hi')|(rw [hst];congr 1;omega))
  ·obtain rfl:i=l.length:=by omega
   repeat' (first|refine zst ?_|(refine zhm fun hb=>?_;try exact zab)|refine zg2 ?_ ?_|refine zln fun _=>?_|refine zop ?_|fail)
   refine zm () [] (by exact trivial) ?_ ?_ ?_
   repeat'(first|apply And.intro|exact ze0|refine ze1 ?_|refine zei ?_ ?_|exact rfl|trivial)
   all_goals exact Stop.mk (by first|rfl|rw [Qv4]|rw [QmH])
end Go.Proofs.YtelbahebpmkfjaaGreat
namespace Go.Proofs.YtelbahebpmkfjaaGreat
open Go Go.RowKit
attribute [local irreducible] AWp Qat OpOk ACalls ChA QsOk MCalls EnC PY
def gO (k j:Nat):Bool:=decide ((((k+1 * j) % 3:Nat):Int)=0)
theorem QmE {l:List Bool} {k:Nat} (h:l.length≤1000000000) (hk:k≤10000000000000000):MCalls Tryz.prog 87 [.row 1000000,.d (.n .i64 k)] [(1000000,.row 4 (Qaw l) true)] (fun (_:Unit)=>True) (fun _=>[.d (.n .i64 ((k+1 * l.length:Nat):Int))]) (fun _=>[(1000000,.row 4 (Qaw (QbV (gO k) l.length)) true)]) (fun _=>[]):=by
 refine Qag tt Tryz.func87 rfl rfl rfl ⟨.inl rfl,trivial⟩ (fun _ _=>⟨⟨⟨rfl,rfl,(Qby (f:=(fun (b:Bool)=>([.b b]:List D))) (z:=1) (fun _=>rfl) (QaL _ _)).symm⟩,trivial⟩,.inl rfl,trivial⟩) (fun w0 Z O=>?_)
 repeat' (first|refine zst ?_|(refine zhm fun hb=>?_;try exact zab)|refine zg2 ?_ ?_|refine zln fun _=>?_|refine zop ?_|fail)
 refine Qae (fun (i:Nat)=>⟨21,[(0,.row 1000000),(1,.d (.n .i64 ((k+1 * i:Nat):Int))),(5,.d (.n .i64 i))],[(1000000,.row 4 (Qaw (mkL (gO k) l i)) true)]⟩) (fun i=>i≤l.length) (fun i=>l.length - i) 0 (by omega) ?_ ?_
 ·refine ⟨rfl,?_,?_,rfl⟩
  repeat'(first|apply And.intro|exact ze0|refine ze1 ?_|refine zei ?_ ?_|exact rfl|trivial)
  all_goals exact Stop.mk (by first|rfl)
 ·intro i hi
  have hl2:(Qaw (mkL (gO k) l i)).length=l.length:=by rw [Qaw,List.length_map,QbR (gO k) l hi]
  have hl3:=QbR (gO k) l hi
  repeat' (first|refine zst ?_|(refine zhm fun hb=>?_;try exact zab)|refine zg2 ?_ ?_|(apply Qcj;first|(refine Qei rfl rfl rfl rfl rfl hl2 (by omega) rfl rfl rfl rfl ?_)|(refine Qds rfl rfl rfl rfl rfl hl2 (by omega) (QeK (by omega)) rfl rfl rfl rfl ?_))|refine zln fun _=>?_|refine zop ?_|fail)
  ·refine ⟨i+1,by omega,by omega,?_⟩
   refine ⟨rfl,?_,?_,rfl⟩
   repeat'(first|apply And.intro|exact ze0|refine ze1 ?_|refine zei ?_ ?_|exact rfl|trivial)
   all_goals exact Stop.mk (by first|rfl|exact QiA (f:=(fun (b:Bool)=>([.b b]:List D))) (by omega))
  ·obtain rfl:i=l.length:=by omega
   refine zm () [] (by exact trivial) ?_ ?_ ?_
   repeat'(first|apply And.intro|exact ze0|refine ze1 ?_|refine zei ?_ ?_|exact rfl|trivial)
   all_goals exact Stop.mk (by first|rfl|rw [Qiz])
theorem Qmp {n k:Nat} (h:n≤1000000000) (hk:k≤10000000000000000):ACalls Tryz.prog 111 [.d (.sl (Qaw (QbV (gO k) n))),.d (.n .i64 k)] [.d (.n .i64 ((k+1 * n:Nat):Int))] []:=by
  refine Qaa tt Tryz.func111 rfl rfl rfl (fun w0 Z=>?_)
  have hl:=QaL (gO k) n
  repeat' (first|refine zst ?_|(refine zhm fun hb=>?_;try exact zab)|refine zg2 ?_ ?_|refine zln fun _=>?_|refine zop ?_|fail)
  refine Qae (fun (i:Nat)=>⟨23,[(0,.d (.sl (Qaw (QbV (gO k) n)))),(1,.d (.n .i64 ((k+1 * i:Nat):Int))),(5,.d (.n .i64 i))],[]⟩) (fun i=>i≤n) (fun i=>n - i) 0 (by omega) ?_ ?_
  · exact ⟨rfl,zae,zae,rfl⟩
  · intro i hi
    repeat' (first|refine zst ?_|(refine zhm fun hb=>?_;try exact zab)|refine zg2 ?_ ?_|refine zln fun _=>?_|refine zop ?_|fail)
    all_goals first
      | (exact absurd (by rw [Qez (by omega)];rfl) hb)
      | (refine ⟨i+1,by omega,by omega,?_⟩
         refine ⟨rfl,?_,?_,rfl⟩
         repeat'(first|apply And.intro|exact ze0|refine ze1 ?_|refine zei ?_ ?_|exact rfl|trivial)
         all_goals exact Stop.mk rfl)
      | (obtain rfl:i=n:=by omega
         refine zr [] ?_ ?_
         repeat'(first|apply And.intro|exact ze0|refine ze1 ?_|refine zei ?_ ?_|exact rfl|trivial)
         all_goals exact Stop.mk rfl)
end Go.Proofs.YtelbahebpmkfjaaGreat
namespace Go.Proofs.YtelbahebpmkfjaaGreat
open Go Go.RowKit
attribute [local irreducible] AWp Qat OpOk ACalls ChA QsOk MCalls EnC PY
theorem QnI {l:List Int} (h:l.length≤1048576):ACalls Tryz.prog 97 [.d (.sl (intE l))] [.row 0] [(0,.row 3 (intE l) true)]:=by
 refine Qaa tt Tryz.func97 rfl rfl rfl (fun w0 Z=>?_)
 have hl:=Qad l
 repeat' (first|refine zst ?_|(refine zhm fun hb=>?_;try exact zab)|refine zg2 ?_ ?_|refine zln fun _=>?_|refine zop ?_|fail)
 refine Qae (fun (i:Nat)=>⟨22,[(0,.d (.sl (intE l))),(3,.row 7),(4,.d (.n .i64 i))],[(7,.row 3 (intE (cpyL l 0 i)) true)]⟩) (fun i=>i≤l.length) (fun i=>l.length - i) 0 (by exact Nat.zero_le _) ?_ ?_
 ·refine ⟨rfl,?_,?_,rfl⟩
  repeat'(first|apply And.intro|exact ze0|refine ze1 ?_|refine zei ?_ ?_|exact rfl|trivial)
  all_goals exact Stop.mk (by first|rfl|(rw [QbE];exact (List.map_replicate ..).symm)|(rw [QbE];simp [intE]))
 ·intro i hi
  have hcl:(intE (cpyL l 0 i)).length=l.length:=by rw [Qad];exact Qay _ _ hi
  have hcl2:=Qay l 0 hi
  by_cases hi':i<l.length
  ·repeat' (first|refine zst ?_|(refine zhm fun hb=>?_;try exact zab)|refine zg2 ?_ ?_|refine zln fun _=>?_|refine zop ?_|fail)
   refine ⟨i+1,by omega,by omega,?_⟩
   refine ⟨rfl,?_,?_,rfl⟩
   repeat'(first|apply And.intro|exact ze0|refine ze1 ?_|refine zei ?_ ?_|exact rfl|trivial)
   all_goals exact Stop.mk (by first|rfl|exact Qcf (f:=(fun x=>([.n .i64 x]:List D))) hi')
  ·obtain rfl:i=l.length:=by omega
   repeat' (first|refine zst ?_|(refine zhm fun hb=>?_;try exact zab)|refine zg2 ?_ ?_|refine zln fun _=>?_|refine zop ?_|fail)
   refine zr [7] ?_ ?_
   repeat'(first|apply And.intro|exact ze0|refine ze1 ?_|refine zei ?_ ?_|exact rfl|trivial)
   all_goals exact Stop.mk (by first|rfl|rw [Qch])
theorem QrR {l:List Bool} (h:l.length≤1048576):ACalls Tryz.prog 72 [.d (.sl (Qaw l))] [.row 0] [(0,.row 4 (Qaw l) true)]:=by
 refine Qaa tt Tryz.func72 rfl rfl rfl (fun w0 Z=>?_)
 have hl:=Qaq l
 repeat' (first|refine zst ?_|(refine zhm fun hb=>?_;try exact zab)|refine zg2 ?_ ?_|refine zln fun _=>?_|refine zop ?_|fail)
 refine Qae (fun (i:Nat)=>⟨22,[(0,.d (.sl (Qaw l))),(3,.row 7),(4,.d (.n .i64 i))],[(7,.row 4 (Qaw (cpyL l false i)) true)]⟩) (fun i=>i≤l.length) (fun i=>l.length - i) 0 (by exact Nat.zero_le _) ?_ ?_
 ·refine ⟨rfl,?_,?_,rfl⟩
  repeat'(first|apply And.intro|exact ze0|refine ze1 ?_|refine zei ?_ ?_|exact rfl|trivial)
  all_goals exact Stop.mk (by first|rfl|(rw [QbE];exact (List.map_replicate ..).symm)|(rw [QbE];simp [Qaw]))
 ·intro i hi
  have hcl:(Qaw (cpyL l false i)).length=l.length:=by rw [Qaq];exact Qay _ _ hi
  have hcl2:=Qay l false hi
  by_cases hi':i<l.length
  ·repeat' (first|refine zst ?_|(refine zhm fun hb=>?_;try exact zab)|refine zg2 ?_ ?_|refine zln fun _=>?_|refine zop ?_|fail)
   refine ⟨i+1,by omega,by omega,?_⟩
   refine ⟨rfl,?_,?_,rfl⟩
   repeat'(first|apply And.intro|exact ze0|refine ze1 ?_|refine zei ?_ ?_|exact rfl|trivial)
   all_goals exact Stop.mk (by first|rfl|exact Qcf (f:=(fun b=>([.b b]:List D))) hi')
  ·obtain rfl:i=l.length:=by omega
   repeat' (first|refine zst ?_|(refine zhm fun hb=>?_;try exact zab)|refine zg2 ?_ ?_|refine zln fun _=>?_|refine zop ?_|fail)
   refine zr [7] ?_ ?_
   repeat'(first|apply And.intro|exact ze0|refine ze1 ?_|refine zei ?_ ?_|exact rfl|trivial)
   all_goals exact Stop.mk (by first|rfl|rw [Qch])
theorem Qsv {l:List Node} (h:l.length≤1048576):ACalls Tryz.prog 165 [.d (.sl (QaD l))] [.row 0] [(0,.row 255 (QaD l) true)]:=by
 refine Qaa tt Tryz.func165 rfl rfl rfl (fun w0 Z=>?_)
 have hl:=Qar l
 repeat' (first|refine zst ?_|(refine zhm fun hb=>?_;try exact zab)|refine zg2 ?_ ?_|refine zln fun _=>?_|refine zop ?_|fail)
 refine Qae (fun (i:Nat)=>⟨23,[(0,.d (.sl (QaD l))),(3,.row 7),(4,.d (.n .i64 i))],[(7,.row 255 (QaD (cpyL l ⟨0,⟨0,0,0⟩⟩ i)) true)]⟩) (fun i=>i≤l.length) (fun i=>l.length - i) 0 (by exact Nat.zero_le _) ?_ ?_
 ·refine ⟨rfl,?_,?_,rfl⟩
  repeat'(first|apply And.intro|exact ze0|refine ze1 ?_|refine zei ?_ ?_|exact rfl|trivial)
  all_goals exact Stop.mk (by first|rfl|(rw [QbE];exact (List.map_replicate ..).symm)|(rw [QbE];simp [QaD]))
 ·intro i hi
  have hcl:(QaD (cpyL l ⟨0,⟨0,0,0⟩⟩ i)).length=l.length:=by rw [Qar];exact Qay _ _ hi
  have hcl2:=Qay l ⟨0,⟨0,0,0⟩⟩ hi
  by_cases hi':i<l.length
  ·repeat' (first|refine zst ?_|(refine zhm fun hb=>?_;try exact zab)|refine zg2 ?_ ?_|refine zln fun _=>?_|refine zop ?_|refine kc (QoJ (x:=nth l i)) rfl rfl ?_|fail)
   refine ⟨i+1,by omega,by omega,?_⟩
   refine ⟨rfl,?_,?_,rfl⟩
   repeat'(first|apply And.intro|exact ze0|refine ze1 ?_|refine zei ?_ ?_|exact rfl|trivial)
   all_goals exact Stop.mk (by first|rfl|exact Qcf (f:=(fun n=>([.n .i64 n.leaf,.n .i64 n.cap.a,.n .i64 n.cap.b,.n .i64 n.cap.c]:List D))) hi')
  ·obtain rfl:i=l.length:=by omega
   repeat' (first|refine zst ?_|(refine zhm fun hb=>?_;try exact zab)|refine zg2 ?_ ?_|refine zln fun _=>?_|refine zop ?_|fail)
   refine zr [7] ?_ ?_
   repeat'(first|apply And.intro|exact ze0|refine ze1 ?_|refine zei ?_ ?_|exact rfl|trivial)
   all_goals exact Stop.mk (by first|rfl|rw [Qch])
theorem Qti {l:List Job} (h:l.length≤1048576):ACalls Tryz.prog 74 [.d (.sl (jobE l))] [.row 0] [(0,.row 78 (jobE l) true)]:=by
 refine Qaa tt Tryz.func74 rfl rfl rfl (fun w0 Z=>?_)
 have hl:=Qak l
 repeat' (first|refine zst ?_|(refine zhm fun hb=>?_;try exact zab)|refine zg2 ?_ ?_|refine zln fun _=>?_|refine zop ?_|fail)
 refine Qae (fun (i:Nat)=>⟨23,[(0,.d (.sl (jobE l))),(3,.row 7),(4,.d (.n .i64 i))],[(7,.row 78 (jobE (cpyL l ⟨0,0,0,⟨0,0,0⟩,⟨0,0,0⟩,0,0⟩ i)) true)]⟩) (fun i=>i≤l.length) (fun i=>l.length - i) 0 (by exact Nat.zero_le _) ?_ ?_
 ·refine ⟨rfl,?_,?_,rfl⟩
  repeat'(first|apply And.intro|exact ze0|refine ze1 ?_|refine zei ?_ ?_|exact rfl|trivial)
  all_goals exact Stop.mk (by first|rfl|(rw [QbE];exact (List.map_replicate ..).symm)|(rw [QbE];simp [jobE]))
 ·intro i hi
  have hcl:(jobE (cpyL l ⟨0,0,0,⟨0,0,0⟩,⟨0,0,0⟩,0,0⟩ i)).length=l.length:=by rw [Qak];exact Qay _ _ hi
  have hcl2:=Qay l ⟨0,0,0,⟨0,0,0⟩,⟨0,0,0⟩,0,0⟩ hi
  by_cases hi':i<l.length
  ·repeat' (first|refine zst ?_|(refine zhm fun hb=>?_;try exact zab)|refine zg2 ?_ ?_|refine zln fun _=>?_|refine zop ?_|refine kc (Qh1 (x:=nth l i)) rfl rfl ?_|fail)
   refine ⟨i+1,by omega,by omega,?_⟩
   refine ⟨rfl,?_,?_,rfl⟩
   repeat'(first|apply And.intro|exact ze0|refine ze1 ?_|refine zei ?_ ?_|exact rfl|trivial)
   all_goals exact Stop.mk (by first|rfl|exact Qcf (f:=jobD) hi')
  ·obtain rfl:i=l.length:=by omega
   repeat' (first|refine zst ?_|(refine zhm fun hb=>?_;try exact zab)|refine zg2 ?_ ?_|refine zln fun _=>?_|refine zop ?_|fail)
   refine zr [7] ?_ ?_
   repeat'(first|apply And.intro|exact ze0|refine ze1 ?_|refine zei ?_ ?_|exact rfl|trivial)
   all_goals exact Stop.mk (by first|rfl|rw [Qch])
theorem QtA {l:List EndS} (h:l.length≤1048576):ACalls Tryz.prog 76 [.d (.sl (endE l))] [.row 0] [(0,.row 150 (endE l) true)]:=by
 refine Qaa tt Tryz.func76 rfl rfl rfl (fun w0 Z=>?_)
 have hl:=QaC l
 repeat' (first|refine zst ?_|(refine zhm fun hb=>?_;try exact zab)|refine zg2 ?_ ?_|refine zln fun _=>?_|refine zop ?_|fail)
 refine Qae (fun (i:Nat)=>⟨23,[(0,.d (.sl (endE l))),(3,.row 7),(4,.d (.n .i64 i))],[(7,.row 150 (endE (cpyL l ⟨0,0,0⟩ i)) true)]⟩) (fun i=>i≤l.length) (fun i=>l.length - i) 0 (by exact Nat.zero_le _) ?_ ?_
 ·refine ⟨rfl,?_,?_,rfl⟩
  repeat'(first|apply And.intro|exact ze0|refine ze1 ?_|refine zei ?_ ?_|exact rfl|trivial)
  all_goals exact Stop.mk (by first|rfl|(rw [QbE];exact (List.map_replicate ..).symm)|(rw [QbE];simp [endE]))
 ·intro i hi
  have hcl:(endE (cpyL l ⟨0,0,0⟩ i)).length=l.length:=by rw [QaC];exact Qay _ _ hi
  have hcl2:=Qay l ⟨0,0,0⟩ hi
  by_cases hi':i<l.length
  ·repeat' (first|refine zst ?_|(refine zhm fun hb=>?_;try exact zab)|refine zg2 ?_ ?_|refine zln fun _=>?_|refine zop ?_|refine kc (QsC (x:=nth l i)) rfl rfl ?_|fail)
   refine ⟨i+1,by omega,by omega,?_⟩
   refine ⟨rfl,?_,?_,rfl⟩
   repeat'(first|apply And.intro|exact ze0|refine ze1 ?_|refine zei ?_ ?_|exact rfl|trivial)
   all_goals exact Stop.mk (by first|rfl|exact Qcf (f:=(fun e=>([.n .i64 e.id,.n .i64 e.at',.n .i64 e.why]:List D))) hi')
  ·obtain rfl:i=l.length:=by omega
   repeat' (first|refine zst ?_|(refine zhm fun hb=>?_;try exact zab)|refine zg2 ?_ ?_|refine zln fun _=>?_|refine zop ?_|fail)
   refine zr [7] ?_ ?_
   repeat'(first|apply And.intro|exact ze0|refine ze1 ?_|refine zei ?_ ?_|exact rfl|trivial)
   all_goals exact Stop.mk (by first|rfl|rw [Qch])
theorem Qs3 {α:Type} [Inhabited α] {l:List α} {z:α} {i:Nat} (h:i<l.length):nth (cpyL l z i) i=z:=by
 have:(cpyL l z i)[i]?=some z:=by
  unfold cpyL
  rw [List.getElem?_append_right (by simp;omega)]
  simp [show min i l.length=i by omega,List.getElem?_replicate]
  omega
 simp [nth,this]
@[reducible] def runO (r:Run) (q:Nat):AV:=.agg [.d (.n .i64 r.job.id),.d (.n .i64 r.job.prio),.d (.n .i64 r.job.nodes),.d (.n .i64 r.job.need.a),.d (.n .i64 r.job.need.b),.d (.n .i64 r.job.need.c),.d (.n .i64 r.job.lic.a),.d (.n .i64 r.job.lic.b),.d (.n .i64 r.job.lic.c),.d (.n .i64 r.job.wall),.d (.n .i64 r.job.level),.d (.n .i64 r.at'),.row q]
theorem QwG {r:Run} (h:r.nodes.length≤1048576):ACalls Tryz.prog 166 [runA r] [runO r 0] [(0,.row 3 (intE r.nodes) true)]:=by
 refine Qaa tt Tryz.func166 rfl rfl rfl (fun w0 Z=>?_)
 repeat' (first|refine zst ?_|(refine zhm fun hb=>?_;try exact zab)|refine zg2 ?_ ?_|refine zop ?_|refine kc (Qh1 (x:=r.job)) rfl rfl ?_|refine kc (QnI (l:=r.nodes) h) rfl rfl ?_|fail)
 exact zr [13] zae zae
theorem Que {l:List Run} (h:l.length≤1048576) (hr:∀j,j<l.length→(nth l j).nodes.length≤1048576):ACalls Tryz.prog 75 [.d (.sl (runE l))] [.row 0] [(0,.row 148 (runE l) true)]:=by
 refine Qaa tt Tryz.func75 rfl rfl rfl (fun w0 Z=>?_)
 have hl:=Qah l
 repeat' (first|refine zst ?_|(refine zhm fun hb=>?_;try exact zab)|refine zg2 ?_ ?_|(apply Qcj;first|refine zom ?_|(refine Qn3 rfl rfl rfl rfl (by first|with_reducible rfl|exact nlit _|rfl) rfl (by first|with_reducible rfl|exact nlit _|rfl) (by omega) ⟨rfl,rfl,rfl⟩ rfl rfl rfl rfl rfl ?_))|refine zln fun _=>?_|refine zop ?_|fail)
 refine Qae (fun (i:Nat)=>⟨23,[(0,.d (.sl (runE l))),(3,.row 7),(4,.d (.n .i64 i))],[(7,.row 148 (runE (cpyL l zRun i)) true)]⟩) (fun i=>i≤l.length) (fun i=>l.length - i) 0 (by exact Nat.zero_le _) ?_ ?_
 ·refine ⟨rfl,?_,?_,rfl⟩
  repeat'(first|apply And.intro|exact ze0|refine ze1 ?_|refine zei ?_ ?_|exact rfl|trivial)
  all_goals exact Stop.mk (by first|rfl|(rw [QbE];exact (List.map_replicate ..).symm)|(rw [QbE];simp [runE,zRun,intE]))
 ·intro k hk
  have hcl:(runE (cpyL l zRun k)).length=l.length:=by rw [Qah];exact Qay _ _ hk
  have hcl2:=Qay l zRun hk
  by_cases hk':k<l.length
  ·have hat:=Qnc (l:=cpyL l zRun k) (j:=k) (by omega)
   rw [Qs3 hk'] at hat
   repeat' (first|refine zst ?_|(refine zhm fun hb=>?_;try exact zab)|refine zg2 ?_ ?_|(apply Qcj;first|(refine Qrl rfl rfl rfl rfl rfl rfl rfl rfl rfl rfl hcl (by omega) hat rfl rfl rfl (QaG fun _=>rfl) rfl rfl ?_))|refine zln fun _=>?_|refine zop ?_|refine kc (QwG (r:=nth l k) (hr k hk')) rfl rfl ?_|fail)
   refine ⟨k+1,by omega,by omega,?_⟩
   refine ⟨rfl,?_,?_,rfl⟩
   repeat'(first|apply And.intro|exact ze0|refine ze1 ?_|refine zei ?_ ?_|exact rfl|trivial)
   all_goals exact Stop.mk (by first|rfl|exact Qcf (f:=runD) hk')
  ·obtain rfl:k=l.length:=by omega
   repeat' (first|refine zst ?_|(refine zhm fun hb=>?_;try exact zab)|refine zg2 ?_ ?_|refine zln fun _=>?_|refine zop ?_|fail)
   refine zr [7] ?_ ?_
   repeat'(first|apply And.intro|exact ze0|refine ze1 ?_|refine zei ?_ ?_|exact rfl|trivial)
   all_goals exact Stop.mk (by first|rfl|rw [Qch])
theorem Qua {t:Topo} (h1:t.parents.length≤1048576) (h2:t.nodes.length≤1048576):ACalls Tryz.prog 71 [Qcw t] [.agg [.row 0,.row 1]] [(0,.row 3 (intE t.parents) true),(1,.row 255 (QaD t.nodes) true)]:=by
 refine Qaa tt Tryz.func71 rfl rfl rfl (fun w0 Z=>?_)
 repeat' (first|refine zst ?_|(refine zhm fun hb=>?_;try exact zab)|refine zg2 ?_ ?_|refine zop ?_|refine kc (QnI (l:=t.parents) h1) rfl rfl ?_|refine kc (Qsv (l:=t.nodes) h2) rfl rfl ?_|fail)
 exact zr [6,10] zae zae
@[reducible] def Qgp (s:State) (q0 q1 q2 q3 q4 q5:Nat):AV:=.agg [.row q0,.row q1,.row q2,.d (.n .i64 s.lic.a),.d (.n .i64 s.lic.b),.d (.n .i64 s.lic.c),.d (.n .i64 s.depth),.d (.n .i64 s.now),.row q3,.row q4,.row q5]
@[reducible] def Qgc (s:State):List (Nat×AO):=[(0,.row 3 (intE s.topo.parents) true),(1,.row 255 (QaD s.topo.nodes) true),(2,.row 4 (Qaw s.up) true),(3,.row 78 (jobE s.queue) true),(4,.row 148 (runE s.runs) true),(5,.row 150 (endE s.ends) true)]
theorem QbO {s:State} (h:Small 1048576 s):ACalls Tryz.prog 17 [QaA s] [Qgp s 0 1 2 3 4 5] (Qgc s):=by
 refine Qaa tt Tryz.func17 rfl rfl rfl (fun w0 Z=>?_)
 repeat' (first|refine zst ?_|(refine zhm fun hb=>?_;try exact zab)|refine zg2 ?_ ?_|refine zop ?_|refine kc (Qua (t:=s.topo) h.par h.nod) rfl rfl ?_|refine kc (QrR (l:=s.up) h.up) rfl rfl ?_|refine kc (QgC (x:=s.lic)) rfl rfl ?_|refine kc (Qti (l:=s.queue) h.que) rfl rfl ?_|refine kc (Que (l:=s.runs) h.run h.rno) rfl rfl ?_|refine kc (QtA (l:=s.ends) h.end') rfl rfl ?_|fail)
 exact zr [6,1006,10,24,28,32] zae zae
end Go.Proofs.YtelbahebpmkfjaaGreat
namespace Go.Proofs.YtelbahebpmkfjaaGreat
open Go Go.RowKit
attribute [local irreducible] AWp Qat OpOk ACalls ChA QsOk MCalls EnC PY
theorem QpF {l:List Run} {k:Nat} (h:l.length≤1048576) (hr:∀j,j<l.length→(nth l j).nodes.length≤1048576) (hk:k≤1000000000000000):ACalls Tryz.prog 113 [.d (.sl (runE (mRs k l))),.d (.n .i64 k)] [.d (.n .i64 ((kR k l:Nat):Int))] []:=by
  refine Qaa tt Tryz.func113 rfl rfl rfl (fun w0 Z=>?_)
  have hl:(runE (mRs k l)).length=l.length:=by rw [Qah,Qd8]
  have hl2:=Qd8 k l
  repeat' (first|refine zst ?_|(refine zhm fun hb=>?_;try exact zab)|refine zg2 ?_ ?_|refine zln fun _=>?_|refine zop ?_|fail)
  refine Qae (fun (i:Nat)=>⟨147,[(0,.d (.sl (runE (mRs k l)))),(1,.d (.n .i64 ((kAt k l i:Nat):Int))),(5,.d (.n .i64 i))],[]⟩) (fun i=>i≤l.length) (fun i=>l.length - i) 0 (by omega) ?_ ?_
  · refine ⟨rfl,?_,?_,rfl⟩
    repeat'(first|apply And.intro|exact ze0|refine ze1 ?_|refine zei ?_ ?_|exact rfl|trivial)
    all_goals exact Stop.mk (by first|rfl)
  · intro i hi
    by_cases hi':i<l.length
    · have hka:=Qqs (k:=k) (j:=i) hr h
      have hnl:=hr i hi'
      have hst:=(QuR k l i hi').2
      have hat:(runE (mRs k l))[i]?=some (runD (mR (kAt k l i) (nth l i))):=by rw [←Qvv k l i hi'];exact Qnc (by rw [Qd8];exact hi')
      repeat' (first|refine zst ?_|(refine zhm fun hb=>?_;try exact zab)|refine zg2 ?_ ?_|(apply Qcj;first|(refine QOk.ok (Qqk rfl rfl rfl rfl rfl (nlit _) hl (by omega) hat rfl rfl ?_)))|refine zln fun _=>?_|refine zop ?_|refine kc (QgI (n:=(nth l i).nodes.length) (k:=kAt k l i+12) (by omega) (by omega)) rfl rfl ?_|fail)
      all_goals first
        | (exact absurd rfl hb)
        | (refine ⟨i+1,by omega,by omega,?_⟩
           refine ⟨rfl,?_,?_,rfl⟩
           repeat'(first|apply And.intro|exact ze0|refine ze1 ?_|refine zei ?_ ?_|exact rfl|trivial)
           all_goals exact Stop.mk (by first|rfl|(rw [hst];congr 1;omega)))
    · obtain rfl:i=l.length:=by omega
      repeat' (first|refine zst ?_|(refine zhm fun hb=>?_;try exact zab)|refine zg2 ?_ ?_|refine zln fun _=>?_|refine zop ?_|fail)
      refine zr [] ?_ ?_
      repeat'(first|apply And.intro|exact ze0|refine ze1 ?_|refine zei ?_ ?_|exact rfl|trivial)
      all_goals exact Stop.mk (by first|rfl|rw [QmH])
def mTp (k:Nat) (t:Topo):Topo:=⟨QbV (gI k) t.parents.length,QbV (gN (k+1 * t.parents.length)) t.nodes.length⟩
def kTp (k:Nat) (t:Topo):Nat:=k+1 * t.parents.length+4 * t.nodes.length
def kUp (k:Nat) (s:State):Nat:=kTp k s.topo+1 * s.up.length
def kQu (k:Nat) (s:State):Nat:=kUp k s+11 * s.queue.length
def kRu (k:Nat) (s:State):Nat:=kR (kQu k s) s.runs
def kSt (k:Nat) (s:State):Nat:=kRu k s+3 * s.ends.length
def mSt (k:Nat) (s:State):State:=⟨mTp k s.topo,QbV (gO (kTp k s.topo)) s.up.length,s.lic,s.depth,s.now,QbV (gJ (kUp k s)) s.queue.length,mRs (kQu k s) s.runs,QbV (gE (kRu k s)) s.ends.length⟩
theorem QjD {s:State} {k:Nat} (h:Small 1048576 s) (hk:k≤100000000000000):k≤kTp k s.topo∧kTp k s.topo≤kUp k s∧kUp k s≤kQu k s∧kQu k s≤kRu k s∧kRu k s≤kSt k s∧kQu k s≤1000000000000000∧kSt k s≤k+1200000000000:=by
 have h1:=h.par;have h2:=h.nod;have h3:=h.up;have h4:=h.que;have h5:=h.run;have h6:=h.end'
 have h7:=Qqs (k:=kQu k s) (j:=s.runs.length) h.rno h.run
 rw [QmH] at h7
 unfold kSt kRu
 have e1:kTp k s.topo=k+1 * s.topo.parents.length+4 * s.topo.nodes.length:=rfl
 have e2:kUp k s=kTp k s.topo+1 * s.up.length:=rfl
 have e3:kQu k s=kUp k s+11 * s.queue.length:=rfl
 omega
theorem tsz:(Tryz.prog.info? 3).map (·.size)=some 1:=ti3.sized
theorem lnI {g:Nat→Int} {l:List Int}:(intE l).map List.length=(intE (QbV g l.length)).map List.length:=(Qby (f:=(fun (x:Int)=>([.n .i64 x]:List D))) (z:=1) (fun _=>rfl) (QaL _ _)).symm
theorem lnN {g:Nat→Node} {l:List Node}:(QaD l).map List.length=(QaD (QbV g l.length)).map List.length:=(Qby (f:=(fun (n:Node)=>([.n .i64 n.leaf,.n .i64 n.cap.a,.n .i64 n.cap.b,.n .i64 n.cap.c]:List D))) (z:=4) (fun _=>rfl) (QaL _ _)).symm
theorem lnB {g:Nat→Bool} {l:List Bool}:(Qaw l).map List.length=(Qaw (QbV g l.length)).map List.length:=(Qby (f:=(fun (b:Bool)=>([.b b]:List D))) (z:=1) (fun _=>rfl) (QaL _ _)).symm
theorem lnJ {g:Nat→Job} {l:List Job}:(jobE l).map List.length=(jobE (QbV g l.length)).map List.length:=(Qby (f:=jobD) (z:=11) (fun _=>rfl) (QaL _ _)).symm
theorem lnR {k:Nat} {l:List Run}:(runE l).map List.length=(runE (mRs k l)).map List.length:=(Qby (f:=runD) (z:=13) (fun _=>rfl) (Qd8 _ _)).symm
theorem lnE {g:Nat→EndS} {l:List EndS}:(endE l).map List.length=(endE (QbV g l.length)).map List.length:=(Qby (f:=(fun (e:EndS)=>([.n .i64 e.id,.n .i64 e.at',.n .i64 e.why]:List D))) (z:=3) (fun _=>rfl) (QaL _ _)).symm
theorem QoU {t:Topo} {k:Nat} (h1:t.parents.length≤1048576) (h2:t.nodes.length≤1048576) (hk:k≤1000000000000000):MCalls Tryz.prog 86 [.agg [.row 1000000,.row 1000001],.d (.n .i64 k)] [(1000000,.row 3 (intE t.parents) true),(1000001,.row 255 (QaD t.nodes) true)] (fun (_:Unit)=>True) (fun _=>[.d (.n .i64 ((kTp k t:Nat):Int))]) (fun _=>[(1000000,.row 3 (intE (mTp k t).parents) true),(1000001,.row 255 (QaD (mTp k t).nodes) true)]) (fun _=>[]):=by
 refine Qag tt Tryz.func86 rfl rfl rfl ⟨.inl rfl,.inl rfl,trivial⟩ (fun _ _=>⟨⟨⟨rfl,rfl,lnI⟩,⟨rfl,rfl,lnN⟩,trivial⟩,.inl rfl,.inl rfl,trivial⟩) (fun w0 Z O=>?_)
 repeat' (first|refine zst ?_|(refine zhm fun hb=>?_;try exact zab)|refine zg2 ?_ ?_|refine zop ?_|(refine km [1000000] (Qjf (l:=t.parents) (k:=k) tsz (by omega) (by omega)) rfl rfl (fun i hi=>?_);(try dsimp only at hi))|(refine km [1000001] (Qmv (l:=t.nodes) (k:=k+1 * t.parents.length) (by omega) (by omega)) rfl rfl (fun i hi=>?_);(try dsimp only at hi))|fail)
 exact zm () [] (by exact trivial) zae zae zae
theorem QbH {s:State} {k:Nat} (h:Small 1048576 s) (hk:k≤100000000000000):MCalls Tryz.prog 21 [Qgp s 1000000 1000001 1000002 1000003 1000004 1000005,.d (.n .i64 k)] [(1000000,.row 3 (intE s.topo.parents) true),(1000001,.row 255 (QaD s.topo.nodes) true),(1000002,.row 4 (Qaw s.up) true),(1000003,.row 78 (jobE s.queue) true),(1000004,.row 148 (runE s.runs) true),(1000005,.row 150 (endE s.ends) true)]
  (fun (_:Unit)=>True) (fun _=>[.d (.n .i64 ((kSt k s:Nat):Int))]) (fun _=>[(1000000,.row 3 (intE (mSt k s).topo.parents) true),(1000001,.row 255 (QaD (mSt k s).topo.nodes) true),(1000002,.row 4 (Qaw (mSt k s).up) true),(1000003,.row 78 (jobE (mSt k s).queue) true),(1000004,.row 148 (runE (mSt k s).runs) true),(1000005,.row 150 (endE (mSt k s).ends) true)]) (fun _=>[]):=by
 refine Qag tt Tryz.func21 rfl rfl rfl ⟨.inl rfl,.inl rfl,.inl rfl,.inl rfl,.inl rfl,.inl rfl,trivial⟩ (fun _ _=>⟨⟨⟨rfl,rfl,lnI⟩,⟨rfl,rfl,lnN⟩,⟨rfl,rfl,lnB⟩,⟨rfl,rfl,lnJ⟩,⟨rfl,rfl,lnR⟩,⟨rfl,rfl,lnE⟩,trivial⟩,.inl rfl,.inl rfl,.inl rfl,.inl rfl,.inl rfl,.inl rfl,trivial⟩) (fun w0 Z O=>?_)
 have hb:=QjD h hk
 have h1:=h.par;have h2:=h.nod;have h3:=h.up;have h4:=h.que;have h5:=h.run;have h6:=h.end'
 repeat' (first|refine zst ?_|(refine zhm fun hb=>?_;try exact zab)|refine zg2 ?_ ?_|refine zop ?_|(refine km [1000000,1000001] (QoU (t:=s.topo) (k:=k) h1 h2 (by omega)) rfl rfl (fun i hi=>?_);(try dsimp only at hi))|(refine km [1000002] (QmE (l:=s.up) (k:=kTp k s.topo) (by omega) (by omega)) rfl rfl (fun i hi=>?_);(try dsimp only at hi))|(refine km [1000003] (Qpp (l:=s.queue) (k:=kUp k s) (by omega) (by omega)) rfl rfl (fun i hi=>?_);(try dsimp only at hi))|(refine km [1000004] (Qo4 (l:=s.runs) (k:=kQu k s) h5 h.rno (by omega)) rfl rfl (fun i hi=>?_);(try dsimp only at hi))|(refine km [1000005] (QpH (l:=s.ends) (k:=kRu k s) (by omega) (by omega)) rfl rfl (fun i hi=>?_);(try dsimp only at hi))|fail)
 exact zm () [] (by exact trivial) zae zae zae
theorem Qpd {t:Topo} {k:Nat} (h1:t.parents.length≤1048576) (h2:t.nodes.length≤1048576) (hk:k≤1000000000000000):ACalls Tryz.prog 110 [Qcw (mTp k t),.d (.n .i64 k)] [.d (.n .i64 ((kTp k t:Nat):Int))] []:=by
 refine Qaa tt Tryz.func110 rfl rfl rfl (fun w0 Z=>?_)
 repeat' (first|refine zst ?_|(refine zhm fun hb=>?_;try exact zab)|refine zg2 ?_ ?_|refine zop ?_|refine kc (QgI (n:=t.parents.length) (k:=k) (by omega) (by omega)) rfl rfl ?_|refine kc (QmL (n:=t.nodes.length) (k:=k+1 * t.parents.length) (by omega) (by omega)) rfl rfl ?_|fail)
 exact zr [] zae zae
theorem Qbm {s:State} {k:Nat} (h:Small 1048576 s) (hk:k≤100000000000000):ACalls Tryz.prog 30 [QaA (mSt k s),.d (.n .i64 k)] [.d (.n .i64 ((kSt k s:Nat):Int))] []:=by
 refine Qaa tt Tryz.func30 rfl rfl rfl (fun w0 Z=>?_)
 have hb:=QjD h hk
 have h1:=h.par;have h2:=h.nod;have h3:=h.up;have h4:=h.que;have h5:=h.run;have h6:=h.end'
 repeat' (first|refine zst ?_|(refine zhm fun hb=>?_;try exact zab)|refine zg2 ?_ ?_|refine zop ?_|refine kc (Qpd (t:=s.topo) (k:=k) h1 h2 (by omega)) rfl rfl ?_|refine kc (Qmp (n:=s.up.length) (k:=kTp k s.topo) (by omega) (by omega)) rfl rfl ?_|refine kc (Qps (n:=s.queue.length) (k:=kUp k s) (by omega) (by omega)) rfl rfl ?_|refine kc (QpF (l:=s.runs) (k:=kQu k s) h5 h.rno (by omega)) rfl rfl ?_|refine kc (Qpq (n:=s.ends.length) (k:=kRu k s) (by omega) (by omega)) rfl rfl ?_|fail)
 exact zr [] zae zae
end Go.Proofs.YtelbahebpmkfjaaGreat
