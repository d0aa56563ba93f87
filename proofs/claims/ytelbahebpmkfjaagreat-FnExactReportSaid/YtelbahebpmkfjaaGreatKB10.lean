/-
  Vectors: valid, VecAdd, VecSub, VecMin, VecFits, both.
-/
import Derived.Test.YtelbahebpmkfjaaGreatKB7
import Derived.Test.YtelbahebpmkfjaaGreatKB9
import Derived.Test.YtelbahebpmkfjaaGreatKB29
import Derived.Sort.OwnSortedInts
set_option maxRecDepth 100000
set_option maxHeartbeats 16000000
namespace Go.Proofs.YtelbahebpmkfjaaGreat
open Go Go.RowKit
attribute [local irreducible] AWp Qat OpOk ACalls ChA QsOk MCalls EnC PY

def addV (a b:V3):V3:=⟨a.a+b.a,a.b+b.b,a.c+b.c⟩
def QlQ (a b:V3):V3:=⟨a.a - b.a,a.b - b.b,a.c - b.c⟩
def minV (a b:V3):V3:=⟨min a.a b.a,min a.b b.b,min a.c b.c⟩
def valO (a b v:V3):Option V3:=if (Qal a&&(Qal b&&Qal v))=true then some v else none
@[reducible] def resV (o:Option V3):List AV:=[vecA (o.getD zV),.d (.b o.isSome)]
def Qem (a b:V3):Bool:=Qal a&&(Qal b&&(decide (a.a≤b.a)&&(decide (a.b≤b.b)&&decide (a.c≤b.c))))
def addO (a b:V3):Option V3:=valO a b (addV a b)
def subO (a b:V3):Option V3:=valO a b (QlQ a b)
def minO (a b:V3):V3:=(valO a b (minV a b)).getD zV
theorem Qdf {v:V3} (h:Qal v=true):(0≤v.a∧v.a≤1000000)∧(0≤v.b∧v.b≤1000000)∧0≤v.c∧v.c≤1000000:=by
 simp only [Qal,Bool.and_eq_true,QcM] at h
 exact ⟨h.1.1,h.1.2,h.2⟩
theorem Qoz {v:V3} (h1:0≤v.a∧v.a≤1000000) (h2:0≤v.b∧v.b≤1000000) (h3:0≤v.c∧v.c≤1000000):Qal v=true:=by
 simp only [Qal,Bool.and_eq_true,QcM]
 exact ⟨⟨h1,h2⟩,h3⟩
theorem QoL {a b v:V3} (h:Qal a=false∨Qal b=false∨Qal v=false):valO a b v=none:=by
 unfold valO
 rw [if_neg]
 rcases h with h|h|h <;> simp [h]
theorem QsB {a b v:V3} (h1:Qal a=true) (h2:Qal b=true) (h3:Qal v=true):valO a b v=some v:=by
 unfold valO
 rw [if_pos]
 simp [h1,h2,h3]
theorem Qws {a b:V3} (h1:Qal a=true) (h2:Qal b=true):Qal (minV a b)=true:=by
 obtain ⟨a1,a2,a3⟩:=Qdf h1
 obtain ⟨b1,b2,b3⟩:=Qdf h2
 exact Qoz (by simp only [minV];omega) (by simp only [minV];omega) (by simp only [minV];omega)
theorem QuK {a b:V3} (h1:Qal a=true) (h2:Qal b=true):minO a b=minV a b:=by
 unfold minO
 rw [QsB h1 h2 (Qws h1 h2)]
 rfl
theorem Qu2 {a b:V3} (h:Qal a=false∨Qal b=false):minO a b=zV:=by
 unfold minO
 rw [QoL (h.imp id Or.inl)]
 rfl
theorem QhY {a b:V3}:Qem a b=true↔Qal a=true∧Qal b=true∧a.a≤b.a∧a.b≤b.b∧a.c≤b.c:=by
 simp only [Qem,Bool.and_eq_true,decide_eq_true_eq]
theorem Qxv {a b:V3} (h:Qem b a=true):subO a b=some (QlQ a b):=by
 obtain ⟨h1,h2,h3,h4,h5⟩:=QhY.1 h
 obtain ⟨a1,a2,a3⟩:=Qdf h1
 obtain ⟨b1,b2,b3⟩:=Qdf h2
 exact QsB h2 h1 (Qoz (by simp only [QlQ];omega) (by simp only [QlQ];omega) (by simp only [QlQ];omega))
theorem QuP {a b:V3} (h:Qem b a=false):subO a b=none:=by
 cases hb:(Qal a&&(Qal b&&Qal (QlQ a b))) with
 | false=>unfold subO valO;rw [hb];rfl
 | true=>
  simp only [Bool.and_eq_true] at hb
  obtain ⟨h1,h2,h3⟩:=hb
  obtain ⟨c1,c2,c3⟩:=Qdf h3
  simp only [QlQ] at c1 c2 c3
  rw [QhY.2 ⟨h2,h1,by omega,by omega,by omega⟩] at h
  cases h
theorem Qrz {a b v:V3}:ACalls Tryz.prog 325 [vecA a,vecA b,vecA v] (resV (valO a b v)) []:=by
 refine Qaa tt Tryz.func325 rfl rfl rfl (fun w0 Z=>?_)
 repeat' (first|refine zst ?_|(refine zhm fun hb=>?_;try exact zab)|refine zg2 ?_ ?_|refine zop ?_|refine kc (Qct (v:=a)) rfl rfl ?_|refine kc (Qct (v:=b)) rfl rfl ?_|refine kc (Qct (v:=v)) rfl rfl ?_|fail)
 ·rw [QoL (Or.inl (by assumption))]
  exact zr [] zae zae
 ·rw [QoL (Or.inr (Or.inl (by assumption)))]
  exact zr [] zae zae
 ·rw [QoL (Or.inr (Or.inr (by assumption)))]
  exact zr [] zae zae
 ·rw [QsB (by assumption) (by assumption) (by assumption)]
  exact zr [] zae zae
theorem Qux {a b:V3} (ha:Qal a=true) (hb':Qal b=true):ACalls Tryz.prog 305 [vecA a,vecA b] (resV (subO a b)) []:=by
 refine Qaa tt Tryz.func305 rfl rfl rfl (fun w0 Z=>?_)
 obtain ⟨a1,a2,a3⟩:=Qdf ha
 obtain ⟨b1,b2,b3⟩:=Qdf hb'
 repeat' (first|refine zst ?_|(refine zhm fun hb=>?_;try exact zab)|refine zg2 ?_ ?_|refine zon ?_|refine kc (Qrz (a:=a) (b:=b) (v:=QlQ a b)) rfl rfl ?_|fail)
 exact zr [] zae zae
theorem QsZ {a b:V3}:ACalls Tryz.prog 311 [vecA a,vecA b] [vecA (minO a b)] []:=by
 refine Qaa tt Tryz.func311 rfl rfl rfl (fun w0 Z=>?_)
 repeat' (first|refine zst ?_|(refine zhm fun hb=>?_;try exact zab)|refine zg2 ?_ ?_|refine zop ?_|refine kc (Qrz (a:=a) (b:=b) (v:=minV a b)) rfl rfl ?_|fail)
 exact zr [] zae zae
theorem Qml {a b:V3}:ACalls Tryz.prog 265 [vecA a,vecA b] [.d (.b (Qem a b))] []:=by
 refine Qaa tt Tryz.func265 rfl rfl rfl (fun w0 Z=>?_)
 repeat' (first|refine zst ?_|(refine zhm fun hb=>?_;try exact zab)|refine zg2 ?_ ?_|refine zop ?_|refine kc (Qct (v:=a)) rfl rfl ?_|refine kc (Qct (v:=b)) rfl rfl ?_|fail)
 all_goals
  refine zr [] ?_ ?_
  repeat'(first|apply And.intro|exact ze0|refine ze1 ?_|refine zei ?_ ?_|exact rfl|trivial)
  refine Stop.mk ?_
  first
   | done
   | (rw [Bool.eq_iff_iff];simp [Qem, *];done)
   | (rw [Bool.eq_iff_iff];simp [Qem, *];omega)
theorem QiV {a b:V3}:ACalls Tryz.prog 321 [vecA a,vecA b] [.d (.b (Qem a b))] []:=by
 refine Qaa tt Tryz.func321 rfl rfl rfl (fun w0 Z=>?_)
 repeat' (first|refine zst ?_|(refine zhm fun hb=>?_;try exact zab)|refine zg2 ?_ ?_|refine zop ?_|refine kc (Qb8 (v:=a)) rfl rfl ?_|refine kc (Qb8 (v:=b)) rfl rfl ?_|fail)
 all_goals
  refine zr [] ?_ ?_
  repeat'(first|apply And.intro|exact ze0|refine ze1 ?_|refine zei ?_ ?_|exact rfl|trivial)
  refine Stop.mk ?_
  first
   | done
   | (rw [Bool.eq_iff_iff];simp [Qem, *];done)
   | (rw [Bool.eq_iff_iff];simp [Qem, *];omega)
theorem QhN {a b:V3}:ACalls Tryz.prog 343 [vecA a,vecA b] (resV (subO a b)) []:=by
 refine Qaa tt Tryz.func343 rfl rfl rfl (fun w0 Z=>?_)
 have hc:=QiV (a:=b) (b:=a)
 cases hf:Qem b a with
 | false=>
  rw [hf] at hc
  repeat' (first|refine zst ?_|(refine zhm fun hb=>?_;try exact zab)|refine zg2 ?_ ?_|refine zop ?_|refine kc (hc) rfl rfl ?_|fail)
  rw [QuP hf]
  exact zr [] zae zae
 | true=>
  rw [hf] at hc
  obtain ⟨h1,h2,h3,h4,h5⟩:=QhY.1 hf
  obtain ⟨a1,a2,a3⟩:=Qdf h1
  obtain ⟨b1,b2,b3⟩:=Qdf h2
  repeat' (first|refine zst ?_|(refine zhm fun hb=>?_;try exact zab)|refine zg2 ?_ ?_|refine zon ?_|refine kc (hc) rfl rfl ?_|fail)
  rw [Qxv hf]
  exact zr [] zae zae
theorem QnE {a b:Int}:ACalls Tryz.prog 369 [.d (.n .i64 a),.d (.n .i64 b)] [.d (.n .i64 (min a b))] []:=by
 refine Qaa tt Tryz.func369 rfl rfl rfl (fun w0 Z=>?_)
 repeat' (first|refine zst ?_|(refine zhm fun hb=>?_;try exact zab)|refine zg2 ?_ ?_|refine zop ?_|fail)
 all_goals
  refine zr [] ?_ ?_
  repeat'(first|apply And.intro|exact ze0|refine ze1 ?_|refine zei ?_ ?_|exact rfl|trivial)
  all_goals exact Stop.mk (by omega)
theorem Quf {a b:V3}:ACalls Tryz.prog 340 [vecA a,vecA b] [vecA (minO a b)] []:=by
 refine Qaa tt Tryz.func340 rfl rfl rfl (fun w0 Z=>?_)
 repeat' (first|refine zst ?_|(refine zhm fun hb=>?_;try exact zab)|refine zdr ?_|(apply zch;exact zcg)|refine HopS.mk fun w0 Z O=>?_|exact zhk|refine zg3 ?_ ?_|refine zop ?_|refine kc (Qb8 (v:=a)) rfl rfl ?_|refine kc (Qb8 (v:=b)) rfl rfl ?_|refine kc (QnE) rfl rfl ?_|refine kq (Qb8 (v:=a)) rfl rfl ?_|refine kq (Qb8 (v:=b)) rfl rfl ?_|refine kq (QnE) rfl rfl ?_|fail)
 ·rw [Qu2 (Or.inl (by assumption))]
  exact zr [] zae zae
 ·rw [Qu2 (Or.inr (by assumption))]
  exact zr [] zae zae
 ·rw [QuK (by assumption) (by assumption)]
  exact zr [] zae zae
end Go.Proofs.YtelbahebpmkfjaaGreat
namespace Go.Proofs.YtelbahebpmkfjaaGreat
open Go Go.RowKit
attribute [local irreducible] AWp Qat OpOk ACalls ChA QsOk EnC PY

theorem Qjm (w:World) (r:Option Nat):w.grownBy w r:=⟨rfl,rfl,rfl,Nat.le_refl _,fun _ _ _=>rfl⟩
theorem Qrg {l:List Int} {d:Bool} (hl:l.length≤1000000000):MCalls Tryz.prog 263 [.row 1000000] [(1000000,.row 3 (intE l) d)] (fun _:Unit=>True) (fun _=>[]) (fun _=>[(1000000,.row 3 (intE (srtI l)) d)]) (fun _=>[]):=by
 refine QoT (z:=1) ti3.sized (QaG fun _=>rfl) (QaG fun _=>rfl) (Qby (f:=fun (x:Int)=>[D.n .i64 x]) (fun _=>rfl) (QbJ l)) (fun us w'=>Go.MuLone.run_callFunc_enter Tryz.func263 rfl rfl us w') ?_
 intro w v us ho hr
 rw [Qdh hr,Qad] at ho
 rw [Qad]
 rcases ho.2 with ⟨hv,hn⟩|⟨g,cap,cur,hv,hbg,hg,hnc,hcm,hcs,htake⟩
 ·have hl0:l=[]:=List.length_eq_zero_iff.1 hn
  subst hl0;subst hv
  have hcon:=AnyM.slices_Sort_int_none Tryz.sortI none 0 w
  change Calls Tryz.prog 263 _ _ _ at hcon
  exact hcon.mono fun e w' ⟨he,hw⟩=>by
   subst hw
   have e0:srtI []=[]:=List.eq_nil_of_length_eq_zero (QbJ [])
   rw [e0]
   exact ⟨he,Qjm _ _,[],ho,rfl,rfl⟩
 ·subst hv
  rw [Nat.mul_one] at htake
  have hcon:=AnyM.slices_Sort_int Tryz.sortI g 0 cap l w (holds_of_blockI hg htake) (Array.getElem?_eq_some_iff.1 hg).1 (by omega)
  change Calls Tryz.prog 263 _ _ _ at hcon
  exact hcon.mono fun e w' ⟨he,n,os,hw⟩=>by
   subst hw
   exact ⟨he,grownBy_sortedI _,(srtI l).map (Value.int .i64),ownsRow_sortedI (QbJ l) (Nat.zero_le _) hg hnc hcm hcs,Qig _ _⟩
theorem QgW:∀(l:List Int) (x y:Int),QgZ x (l++[y])=QgZ x l++(if y=(x::l).getLast (by simp) then [] else [y])
 | [],x,y=>by
  simp only [List.nil_append,QgZ,List.getLast_singleton]
  rfl
 | z::l,x,y=>by
  simp only [List.cons_append,QgZ]
  by_cases hz:z=x
  ·subst hz
   rw [if_pos rfl,if_pos rfl,QgW l z y]
   simp only [List.getLast_cons_cons]
   rfl
  ·rw [if_neg hz,if_neg hz,QgW l z y,List.cons_append]
   simp only [List.getLast_cons_cons]
   rfl
theorem Qev {l:List Int} {m:Nat} (h1:1≤m) (h2:m<l.length):cmpL (l.take (m+1))=cmpL (l.take m)++(if nth l m=nth l (m - 1) then [] else [nth l m]):=by
 rw [List.take_add_one,List.getElem?_eq_getElem h2,←Qa8 h2]
 cases l with
 | nil=>simp at h2
 | cons x l=>
  obtain ⟨k,rfl⟩:∃k,m=k+1:=⟨m - 1,by omega⟩
  simp only [List.take_succ_cons,Option.toList_some,List.cons_append,cmpL]
  rw [QgW]
  have e:(x::l.take k).getLast (by simp)=nth (x::l) (k+1 - 1):=by
   rw [Qa8 (by omega),List.getLast_eq_getElem]
   simp only [List.length_cons,List.length_take,Nat.add_sub_cancel]
   have:min k l.length=k:=by simp at h2;omega
   cases k with
   | zero=>simp
   | succ k=>simp [this]
  rw [e]
theorem Qn4 {l:List Int} (h:1≤l.length):cmpL (l.take 1)=l.take 1:=by
 cases l with
 | nil=>simp at h
 | cons x l=>simp [cmpL,QgZ]
theorem Qoj (l:List Int):∀m,m≤l.length→(cmpL (l.take m)).length≤m
 | 0,_=>by simp [cmpL]
 | m+1,h=>by
  by_cases h0:m=0
  ·subst h0;rw [Qn4 (by omega)];simp;omega
  ·rw [Qev (by omega) (by omega),List.length_append]
   have:=Qoj l m (by omega)
   split <;> simp <;> omega
def cpA (l:List Int) (i:Nat):Prop:=(1≤i∧i≤l.length)∧cmpL (l.take i)=l.take i
def cpB (l:List Int) (k0:Nat) (x:List Int×Nat×Nat):Prop:=
 (1≤x.2.2∧x.2.2≤l.length - k0∧x.1.length=l.length∧1≤x.2.1∧x.2.1+1≤k0+x.2.2)∧x.1.take x.2.1=cmpL (l.take (k0+x.2.2))∧x.1.drop x.2.1=l.drop x.2.1
theorem Qkq {l r:List Int} {k j:Nat} (h:r.drop k=l.drop k) (hj:k≤j) (h1:j<l.length) (h2:j<r.length):nth r j=nth l j:=by
 rw [Qa8 h1,Qa8 h2]
 have e1:(r.drop k)[j - k]?=(l.drop k)[j - k]?:=by rw [h]
 rw [List.getElem?_drop,List.getElem?_drop,show k+(j - k)=j by omega,List.getElem?_eq_getElem h1,List.getElem?_eq_getElem h2] at e1
 simpa using e1
theorem QxU {l:List Int} {k0:Nat} (h:cpA l k0) (h1:k0<l.length) (h2:nth l k0=nth l (k0 - 1)):cpB l k0 (l,k0,1):=by
 obtain ⟨⟨h3,h4⟩,h5⟩:=h
 refine ⟨⟨Nat.le_refl _,by dsimp only;omega,rfl,h3,by dsimp only;omega⟩,?_,rfl⟩
 dsimp only
 rw [Qev h3 h1,if_pos h2,List.append_nil,h5]
theorem QtH {l:List Int} {k0:Nat} {r:List Int} {k m:Nat} (h:cpB l k0 (r,k,m)) (h1:k0+m<l.length) (h2:nth r (k0+m)=nth r (k0+(m - 1))):cpB l k0 (r,k,m+1):=by
 obtain ⟨⟨a1,a2,a3,a4,a5⟩,a6,a7⟩:=h
 dsimp only at a1 a2 a3 a4 a5 a6 a7
 rw [Qkq a7 (by omega) h1 (by omega),Qkq a7 (by omega) (by omega) (by omega)] at h2
 refine ⟨⟨by dsimp only;omega,by dsimp only;omega,a3,a4,by dsimp only;omega⟩,?_,a7⟩
 dsimp only
 rw [←Nat.add_assoc,Qev (by omega) h1,if_pos (by rw [h2];congr 1;omega),List.append_nil]
 exact a6
theorem Qv5 {l:List Int} {k0:Nat} {r:List Int} {k m:Nat} (h:cpB l k0 (r,k,m)) (h1:k0+m<l.length) (h2:nth r (k0+m)≠nth r (k0+(m - 1))):cpB l k0 (r.set k (nth r (k0+m)),k+1,m+1):=by
 obtain ⟨⟨a1,a2,a3,a4,a5⟩,a6,a7⟩:=h
 dsimp only at a1 a2 a3 a4 a5 a6 a7
 have e:=Qkq a7 (by omega) h1 (by omega)
 have e2:=Qkq (j:=k0+(m - 1)) a7 (by omega) (by omega) (by omega)
 rw [e,e2] at h2
 refine ⟨⟨by dsimp only;omega,by dsimp only;omega,by dsimp only;rw [List.length_set];exact a3,by dsimp only;omega,by dsimp only;omega⟩,?_,?_⟩
 ·dsimp only
  rw [←Nat.add_assoc,Qev (by omega) h1,if_neg (by rw [show k0+m - 1=k0+(m - 1) by omega];exact h2),←a6,e]
  rw [List.take_add_one,List.take_set_of_le (Nat.le_refl _),List.getElem?_set_self (by omega)]
  rfl
 ·dsimp only
  rw [List.drop_set_of_lt (by omega)]
  have:(r.drop k).drop 1=(l.drop k).drop 1:=by rw [a7]
  simpa [List.drop_drop] using this
def cmpZ (l:List Int):List Int:=cmpL l++List.replicate (l.length - (cmpL l).length) 0
theorem QrG (l:List Int):(cmpL l).length≤l.length:=by
 have:=Qoj l l.length (Nat.le_refl _)
 rwa [List.take_length] at this
theorem Qp8 {l:List Int} (h:cmpL l=l):cmpZ l=l:=by
 unfold cmpZ
 rw [h,Nat.sub_self]
 simp
theorem Qtd (l:List Int):(cmpZ l).length=l.length:=by
 have:=QrG l
 simp only [cmpZ,List.length_append,List.length_replicate]
 omega
theorem QrO (l:List Int) (k:Nat):(intE l).take k=intE (l.take k):=by simp [intE,List.map_take]
theorem QkS (l:List Int) (k:Nat) (x:Int):(intE l).set k [.n .i64 x]=intE (l.set k x):=by simp [intE,List.map_set]
theorem Qjv {r:List Int} {k n:Nat} (h:r.length=n):(intE r).take k++(List.replicate (n - k) [.n .i64 0]++(intE r).drop n)=intE (r.take k++List.replicate (n - k) 0):=by
 have e:(intE r).drop n=[]:=List.drop_eq_nil_of_le (by rw [Qad];omega)
 rw [e,List.append_nil]
 simp [intE,List.map_take]
theorem Qmd {l:List Int} (hl:l.length≤1000000000):MCalls Tryz.prog 264 [.row 1000000] [(1000000,.row 3 (intE l) true)] (fun _:Unit=>True) (fun _=>[.sub 1000000 0 (cmpL l).length]) (fun _=>[(1000000,.row 3 (intE (cmpZ l)) true)]) (fun _=>[]):=by
 refine Qag tt Tryz.func264 rfl rfl rfl ⟨.inr (.inl (QaG (fun _=>rfl))),trivial⟩ (fun _ _=>⟨⟨⟨rfl,rfl,(Qby (f:=fun (x:Int)=>[D.n .i64 x]) (fun _=>rfl) (Qtd l)).symm⟩,trivial⟩,.inr (.inl (QaG (fun _=>rfl))),trivial⟩) (fun w0 Z O=>?_)
 have hln:(intE l).length=l.length:=Qad l
 repeat' (first|refine zsr ?_|(refine zhm fun hb=>?_;try exact zab)|refine zdr ?_|(apply zch;exact zcg)|refine HopS.mk fun w0 Z O=>?_|exact zhk|refine zg3 ?_ ?_|refine zln fun _=>?_|refine zop ?_|fail)
 ·show AWp _ _ _ _
  have hc:cmpL l=l:=by
   cases l with
   | nil=>rfl
   | cons x l=>
    cases l with
    | nil=>rfl
    | cons y l=>simp at *;omega
  rw [Qp8 hc,hc]
  refine QjN 2 l.length rfl rfl (Qad _) ?_
  refine Qh7 ?_
  refine Qeh () [] (by exact trivial) rfl ?_ ?_ ?_
  all_goals exact zae
 refine Qae (fun (i:Nat)=>⟨61,[(0,.row 1000000),(3,.d (.n .i64 i))],[(1000000,.row 3 (intE l) true)]⟩) (cpA l) (fun i=>l.length - i) 1 (by exact ⟨⟨Nat.le_refl _,by omega⟩,Qn4 (by omega)⟩) ?_ ?_
 ·exact ⟨rfl,zae,zae,rfl⟩
 ·intro k0 hA
  have hA1:=hA.1
  repeat' (first|refine zsr ?_|(refine zhm fun hb=>?_;try exact zab)|refine zdr ?_|(apply zch;exact zcg)|refine HopS.mk fun w0 Z O=>?_|exact zhk|refine zg3 ?_ ?_|refine zln fun _=>?_|refine zop ?_|fail)
  ·refine Qae (fun (x:List Int×Nat×Nat)=>⟨61,[(0,.row 1000000),(3,.d (.n .i64 x.2.1)),(4,.sub 1000000 k0 l.length),(5,.d (.n .i64 x.2.2))],[(1000000,.row 3 (intE x.1) true)]⟩) (cpB l k0) (fun x=>l.length - x.2.2) (l,k0,1) (QxU hA (by omega) (by assumption)) ?_ ?_
   ·exact ⟨rfl,zae,zae,rfl⟩
   ·rintro ⟨r,k,m⟩ hB
    have hB1:=hB.1
    dsimp only at hB1
    have hlr:(intE r).length=r.length:=Qad r
    have hcl:((intE r).take k++(List.replicate (r.length - k) [D.n .i64 0]++(intE r).drop r.length)).length=r.length:=by
     rw [Qjv rfl,Qad];simp;omega
    dsimp only
    repeat' (first|refine zsr ?_|(refine zhm fun hb=>?_;try exact zab)|refine zdr ?_|(apply zch;exact zcg)|refine HopS.mk fun w0 Z O=>?_|exact zhk|refine zg3 ?_ ?_|refine zln fun _=>?_|refine zop ?_|fail)
    ·refine ⟨(r.set k (nth r (k0+m)),k+1,m+1),Qv5 hB (by omega) (by assumption),by dsimp only;omega,?_⟩
     refine ⟨rfl,?_,?_,rfl⟩
     repeat'(first|apply And.intro|exact ze0|refine ze1 ?_|refine zei ?_ ?_|exact rfl|trivial)
     all_goals exact Stop.mk (by first|rfl|exact QkS _ _ _)
    ·refine ⟨(r,k,m+1),QtH hB (by omega) (by assumption),by dsimp only;omega,?_⟩
     exact ⟨rfl,zae,zae,rfl⟩
    ·show AWp _ _ _ _
     have hk:cmpL l=r.take k:=by
      have:=hB.2.1
      dsimp only at this
      rw [List.take_of_length_le (l:=l) (i:=k0+m) (by omega)] at this
      exact this.symm
     have hkl:(cmpL l).length=k:=by rw [hk,List.length_take];omega
     have hz:cmpZ l=r.take k++List.replicate (r.length - k) 0:=by
      unfold cmpZ
      rw [hkl,hk,hB1.2.2.1]
     rw [hkl]
     refine Qh7 ?_
     refine Qeh () [] (by exact trivial) rfl ?_ ?_ ?_
     repeat'(first|apply And.intro|exact ze0|refine ze1 ?_|refine zei ?_ ?_|exact rfl|trivial)
     all_goals exact Stop.mk (by rw [hz];exact Qjv rfl)
  ·refine ⟨k0+1,⟨⟨by omega,by omega⟩,?_⟩,by omega,?_⟩
   ·rw [Qev (by omega) (by omega),if_neg (by assumption),hA.2,List.take_add_one,List.getElem?_eq_getElem (by omega),Qa8 (by omega)]
    rfl
   exact ⟨rfl,zae,zae,rfl⟩
  ·show AWp _ _ _ _
   have hc:cmpL l=l:=by
    have:=hA.2
    rwa [List.take_of_length_le (by omega)] at this
   rw [Qp8 hc,hc]
   refine QjN 2 l.length rfl rfl (Qad _) ?_
   refine Qh7 ?_
   refine Qeh () [] (by exact trivial) rfl ?_ ?_ ?_
   all_goals exact zae
end Go.Proofs.YtelbahebpmkfjaaGreat
namespace Go.Proofs.YtelbahebpmkfjaaGreat
open Go Go.RowKit
attribute [local irreducible] AWp Qat OpOk ACalls ChA QsOk MCalls EnC PY

@[reducible] def Qkh (l:List Pt):List AV:=[.d (.sl (ptE l))]
@[reducible] def vecC (v:V3):List AV:=[.d (.n .i64 v.a),.d (.n .i64 v.b),.d (.n .i64 v.c)]
theorem QdC {a b:Int}:QdT a b=true↔(0≤a∧a≤1000000000)∧(0≤b∧b≤1000000000)∧a<b:=by
 simp only [QdT,Bool.and_eq_true,QcM,decide_eq_true_eq,and_assoc]
theorem QtN {a b:Int}:ACalls Tryz.prog 302 [.d (.n .i64 a),.d (.n .i64 b)] [.d (.b (QdT a b))] []:=by
 refine Qaa tt Tryz.func302 rfl rfl rfl (fun w0 Z=>?_)
 repeat' (first|refine zst ?_|(refine zhm fun hb=>?_;try exact zab)|refine zg2 ?_ ?_|refine zop ?_|refine kc (QcB) rfl rfl ?_|fail)
 all_goals
  refine zr [] ?_ ?_
  repeat'(first|apply And.intro|exact ze0|refine ze1 ?_|refine zei ?_ ?_|exact rfl|trivial)
  exact Stop.mk (by rw [Bool.eq_iff_iff,QdC];simp only [decide_eq_true_eq,Bool.false_eq_true,false_iff];omega)
def ptOk (l:List Pt) (j:Nat):Prop:=((0≤(nth l j).at'∧(nth l j).at'≤1000000000)∧Qal (nth l j).free=true)∧(0<j→(nth l (j - 1)).at'<(nth l j).at'∧(nth l (j - 1)).free≠(nth l j).free)
theorem ProfOk.pt {l:List Pt} (h:ProfOk l) {j:Nat} (hj:j<l.length):ptOk l j:=⟨h.pts j hj,fun h0=>by
 have:=h.steps (j - 1) (by omega)
 rwa [show j - 1+1=j by omega] at this⟩
theorem Qli {l:List Pt} (h1:1≤l.length∧l.length≤200) (h2:(nth l 0).at'=0) (h3:∀j,j<l.length→ptOk l j):ProfOk l:=
 ⟨h1,h2,fun j hj=>(h3 j hj).1,fun j hj=>(h3 (j+1) hj).2 (by omega)⟩
theorem Qt7 {u v:V3}:(u.a==v.a&&(u.b==v.b&&(u.c==v.c&&true)))=true↔u=v:=by
 cases u;cases v;simp
theorem Qtm {u v:V3}:(u.a==v.a&&(u.b==v.b&&(u.c==v.c&&true)))=false↔u≠v:=by
 cases u;cases v;simp
theorem Qkp {l:List Pt} (hl:l.length≤1000000000):ACalls Tryz.prog 301 [Qfn l] [.d (.b (Qbr l))] []:=by
 refine Qaa tt Tryz.func301 rfl rfl rfl (fun w0 Z=>?_)
 have hpl:(ptE l).length=l.length:=QaR l
 repeat' (first|refine zst ?_|(refine zhm fun hb=>?_;try exact zab)|refine zdr ?_|(apply zch;exact zcg)|refine HopS.mk fun w0 Z O=>?_|exact zhk|refine zg3 ?_ ?_|refine zln fun _=>?_|refine zop ?_|refine kc (QaX) rfl rfl ?_|refine kq (QaX) rfl rfl ?_|fail)
 any_goals
  rw [show Qbr l=false from QfY.2 fun h=>by have h1:=h.len;have h2:=h.zero;omega]
  refine zr [] ?_ ?_
  repeat'(first|apply And.intro|exact ze0|refine ze1 ?_|refine zei ?_ ?_|exact rfl|trivial)
  all_goals exact Stop.mk rfl
 refine Qae (fun (i:Nat)=>⟨65,[(1,.ptr 1 0),(19,.d (.sl (ptE l))),(20,.d (.n .i64 (l.length:Nat))),(21,.d (.n .i64 i))],[(1,.box 210 (Qkh l))]⟩) (fun i=>i≤l.length∧∀j,j<i→ptOk l j) (fun i=>l.length - i) 0 (by exact ⟨Nat.zero_le _,fun j hj=>absurd hj (Nat.not_lt_zero _)⟩) ?_ ?_
 ·refine ⟨rfl,?_,?_,rfl⟩
  repeat'(first|apply And.intro|exact ze0|refine ze1 ?_|refine zei ?_ ?_|exact rfl|trivial)
  all_goals exact Stop.mk (by first|rfl|exact QaR _)
 ·rintro i ⟨hi,hp⟩
  repeat' (first|refine zst ?_|(refine zhm fun hb=>?_;try exact zab)|refine zdr ?_|(apply zch;exact zcg)|refine HopS.mk fun w0 Z O=>?_|exact zhk|refine zg3 ?_ ?_|refine zln fun _=>?_|refine zop ?_|refine kc (QcB) rfl rfl ?_|refine kc (Qct (v:=(nth l i).free)) rfl rfl ?_|refine kq (QcB) rfl rfl ?_|refine kq (Qct (v:=(nth l i).free)) rfl rfl ?_|fail)
  any_goals
   rw [show Qbr l=false from QfY.2 fun h=>by
    have hq:=h.pt (j:=i) (by omega)
    have h1:=hq.1.1
    first
     | omega
     | (have h2:=hq.1.2;simp_all;done)
     | (have h2:=hq.2 (by omega);omega)
     | exact (hq.2 (by omega)).2 (Qt7.1 (by assumption))]
   refine zr [] ?_ ?_
   repeat'(first|apply And.intro|exact ze0|refine ze1 ?_|refine zei ?_ ?_|exact rfl|trivial)
   all_goals exact Stop.mk rfl
  ·refine ⟨i+1,⟨by omega,fun j hj=>?_⟩,by omega,?_⟩
   ·by_cases e:j=i
    ·subst e;exact ⟨⟨by assumption,by assumption⟩,fun _=>⟨by omega,Qtm.1 (by assumption)⟩⟩
    ·exact hp j (by omega)
   exact ⟨rfl,zae,zae,rfl⟩
  ·refine ⟨i+1,⟨by omega,fun j hj=>?_⟩,by omega,?_⟩
   ·by_cases e:j=i
    ·subst e;exact ⟨⟨by assumption,by assumption⟩,fun h=>absurd h (by omega)⟩
    ·exact hp j (by omega)
   exact ⟨rfl,zae,zae,rfl⟩
  ·rw [show Qbr l=true from Qbt.2 (Qli (by omega) (by omega) fun j hj=>hp j (by omega))]
   exact zr [] zae zae
theorem Qgo {l:List Pt} (hl:l.length≤1000000000):ACalls Tryz.prog 294 [Qfn l] [.d (.b (Qbr l))] []:=by
 refine Qaa tt Tryz.func294 rfl rfl rfl (fun w0 Z=>?_)
 have hpl:(ptE l).length=l.length:=QaR l
 repeat' (first|refine zst ?_|(refine zhm fun hb=>?_;try exact zab)|refine zdr ?_|(apply zch;exact zcg)|refine HopS.mk fun w0 Z O=>?_|exact zhk|refine zg3 ?_ ?_|refine zln fun _=>?_|refine zop ?_|fail)
 any_goals
  rw [show Qbr l=false from QfY.2 fun h=>by have h1:=h.len;have h2:=h.zero;omega]
  refine zr [] ?_ ?_
  repeat'(first|apply And.intro|exact ze0|refine ze1 ?_|refine zei ?_ ?_|exact rfl|trivial)
  all_goals exact Stop.mk rfl
 refine Qae (fun (i:Nat)=>⟨70,[(1,.ptr 1 0),(24,.d (.sl (ptE l))),(25,.d (.n .i64 (l.length:Nat))),(26,.d (.n .i64 i))],[(1,.box 210 (Qkh l))]⟩) (fun i=>i≤l.length∧∀j,j<i→ptOk l j) (fun i=>l.length - i) 0 (by exact ⟨Nat.zero_le _,fun j hj=>absurd hj (Nat.not_lt_zero _)⟩) ?_ ?_
 ·refine ⟨rfl,?_,?_,rfl⟩
  repeat'(first|apply And.intro|exact ze0|refine ze1 ?_|refine zei ?_ ?_|exact rfl|trivial)
  all_goals exact Stop.mk (by first|rfl|exact QaR _)
 ·rintro i ⟨hi,hp⟩
  repeat' (first|refine zst ?_|(refine zhm fun hb=>?_;try exact zab)|refine zdr ?_|(apply zch;exact zcg)|refine HopS.mk fun w0 Z O=>?_|exact zhk|refine zg3 ?_ ?_|refine zln fun _=>?_|refine zop ?_|refine kc (Qce) rfl rfl ?_|refine kc (Qb8 (v:=(nth l i).free)) rfl rfl ?_|refine kq (Qce) rfl rfl ?_|refine kq (Qb8 (v:=(nth l i).free)) rfl rfl ?_|fail)
  any_goals
   rw [show Qbr l=false from QfY.2 fun h=>by
    have hq:=h.pt (j:=i) (by omega)
    have h1:=hq.1.1
    first
     | omega
     | (have h2:=hq.1.2;simp_all;done)
     | (have h2:=hq.2 (by omega);omega)
     | exact (hq.2 (by omega)).2 (Qt7.1 (by assumption))]
   refine zr [] ?_ ?_
   repeat'(first|apply And.intro|exact ze0|refine ze1 ?_|refine zei ?_ ?_|exact rfl|trivial)
   all_goals exact Stop.mk rfl
  ·refine ⟨i+1,⟨by omega,fun j hj=>?_⟩,by omega,?_⟩
   ·by_cases e:j=i
    ·subst e;exact ⟨⟨by assumption,by assumption⟩,fun _=>⟨by omega,Qtm.1 (by assumption)⟩⟩
    ·exact hp j (by omega)
   exact ⟨rfl,zae,zae,rfl⟩
  ·refine ⟨i+1,⟨by omega,fun j hj=>?_⟩,by omega,?_⟩
   ·by_cases e:j=i
    ·subst e;exact ⟨⟨by assumption,by assumption⟩,fun h=>absurd h (by omega)⟩
    ·exact hp j (by omega)
   exact ⟨rfl,zae,zae,rfl⟩
  ·rw [show Qbr l=true from Qbt.2 (Qli (by omega) (by omega) fun j hj=>hp j (by omega))]
   exact zr [] zae zae
theorem QpM (l:List Pt) (p:Pt) (t:Int):Qbo (l++[p]) t=if p.at'≤t then p.free else Qbo l t:=by
 simp [Qbo,List.foldl_append]
theorem Qas {α:Type} [Inhabited α] {l:List α} {i:Nat} (h:i<l.length):l.take (i+1)=l.take i++[nth l i]:=by
 rw [List.take_add_one,List.getElem?_eq_getElem h,Qa8 h]
 rfl
theorem Qc2 {l:List Pt} {i:Nat} (h:i<l.length) (t:Int):Qbo (l.take (i+1)) t=if (nth l i).at'≤t then (nth l i).free else Qbo (l.take i) t:=by
 rw [Qas h,QpM]
theorem Qmg {l:List Pt} {t:Int} (hl:l.length≤1000000000):ACalls Tryz.prog 310 [Qfn l,.d (.n .i64 t)] [vecA (Qbo l t)] []:=by
 refine Qaa tt Tryz.func310 rfl rfl rfl (fun w0 Z=>?_)
 repeat' (first|refine zst ?_|(refine zhm fun hb=>?_;try exact zab)|refine zg2 ?_ ?_|refine zln fun _=>?_|refine zop ?_|fail)
 refine Qae (fun (i:Nat)=>⟨24,[(1,.d (.n .i64 t)),(4,.ptr 4 0),(5,.ptr 5 0),(10,.d (.sl (ptE l))),(11,.d (.n .i64 (l.length:Nat))),(12,.d (.n .i64 i))],[(4,.box 38 (vecC zV)),(5,.box 38 (vecC (Qbo (l.take i) t)))]⟩) (fun i=>i≤l.length) (fun i=>l.length - i) 0 (by exact Nat.zero_le _) ?_ ?_
 ·refine ⟨rfl,?_,?_,rfl⟩
  repeat'(first|apply And.intro|exact ze0|refine ze1 ?_|refine zei ?_ ?_|exact rfl|trivial)
  all_goals exact Stop.mk (by first|rfl|exact QaR _)
 ·intro i hi
  repeat' (first|refine zst ?_|(refine zhm fun hb=>?_;try exact zab)|refine zg2 ?_ ?_|refine zln fun _=>?_|refine zop ?_|fail)
  ·refine ⟨i+1,by omega,by omega,?_⟩
   refine ⟨rfl,?_,?_,rfl⟩
   repeat'(first|apply And.intro|exact ze0|refine ze1 ?_|refine zei ?_ ?_|exact rfl|trivial)
   all_goals exact Stop.mk (by first|rfl|(rw [Qc2 (by omega),if_pos (by assumption)]))
  ·refine ⟨i+1,by omega,by omega,?_⟩
   refine ⟨rfl,?_,?_,rfl⟩
   repeat'(first|apply And.intro|exact ze0|refine ze1 ?_|refine zei ?_ ?_|exact rfl|trivial)
   all_goals exact Stop.mk (by first|rfl|(rw [Qc2 (by omega),if_neg (by assumption)]))
  ·rw [show Qbo l t=Qbo (l.take i) t by rw [List.take_of_length_le (by omega)]]
   exact zr [] zae zae
theorem QiN {l:List Pt} {t:Int} (hl:l.length≤1000000000):ACalls Tryz.prog 339 [Qfn l,.d (.n .i64 t)] [vecA (Qbo l t)] []:=by
 refine Qaa tt Tryz.func339 rfl rfl rfl (fun w0 Z=>?_)
 repeat' (first|refine zst ?_|(refine zhm fun hb=>?_;try exact zab)|refine zg2 ?_ ?_|refine zln fun _=>?_|refine zop ?_|fail)
 refine Qae (fun (i:Nat)=>⟨24,[(1,.d (.n .i64 t)),(4,.ptr 4 0),(5,.ptr 5 0),(10,.d (.sl (ptE l))),(11,.d (.n .i64 (l.length:Nat))),(12,.d (.n .i64 i))],[(4,.box 38 (vecC zV)),(5,.box 38 (vecC (Qbo (l.take i) t)))]⟩) (fun i=>i≤l.length) (fun i=>l.length - i) 0 (by exact Nat.zero_le _) ?_ ?_
 ·refine ⟨rfl,?_,?_,rfl⟩
  repeat'(first|apply And.intro|exact ze0|refine ze1 ?_|refine zei ?_ ?_|exact rfl|trivial)
  all_goals exact Stop.mk (by first|rfl|exact QaR _)
 ·intro i hi
  repeat' (first|refine zst ?_|(refine zhm fun hb=>?_;try exact zab)|refine zg2 ?_ ?_|refine zln fun _=>?_|refine zop ?_|fail)
  ·refine ⟨i+1,by omega,by omega,?_⟩
   refine ⟨rfl,?_,?_,rfl⟩
   repeat'(first|apply And.intro|exact ze0|refine ze1 ?_|refine zei ?_ ?_|exact rfl|trivial)
   all_goals exact Stop.mk (by first|rfl|(rw [Qc2 (by omega),if_pos (by assumption)]))
  ·refine ⟨i+1,by omega,by omega,?_⟩
   refine ⟨rfl,?_,?_,rfl⟩
   repeat'(first|apply And.intro|exact ze0|refine ze1 ?_|refine zei ?_ ?_|exact rfl|trivial)
   all_goals exact Stop.mk (by first|rfl|(rw [Qc2 (by omega),if_neg (by assumption)]))
  ·rw [show Qbo l t=Qbo (l.take i) t by rw [List.take_of_length_le (by omega)]]
   exact zr [] zae zae
def newP (v:V3):List Pt:=if Qal v=true then [⟨0,v⟩] else []
theorem Qgg {v:V3} (hv:Qal v=true):ACalls Tryz.prog 269 [vecA v] [.agg [.row 0],.d (.b true)] [(0,.row 273 (ptE [⟨0,v⟩]) true)]:=by
 refine Qaa tt Tryz.func269 rfl rfl rfl (fun w0 Z=>?_)
 have hc:=Qct (v:=v)
 rw [hv] at hc
 repeat' (first|refine zst ?_|(refine zhm fun hb=>?_;try exact zab)|refine zg2 ?_ ?_|refine zop ?_|refine kc (hc) rfl rfl ?_|fail)
 exact zr [10] zae zae
theorem QbP {v:V3} (hv:Qal v=true):ACalls Tryz.prog 291 [vecA v] [.agg [.row 0],.d (.b true)] [(0,.row 273 (ptE [⟨0,v⟩]) true)]:=by
 refine Qaa tt Tryz.func291 rfl rfl rfl (fun w0 Z=>?_)
 have hc:=Qb8 (v:=v)
 rw [hv] at hc
 repeat' (first|refine zst ?_|(refine zhm fun hb=>?_;try exact zab)|refine zg2 ?_ ?_|refine zop ?_|refine kc (hc) rfl rfl ?_|fail)
 exact zr [10] zae zae
end Go.Proofs.YtelbahebpmkfjaaGreat
