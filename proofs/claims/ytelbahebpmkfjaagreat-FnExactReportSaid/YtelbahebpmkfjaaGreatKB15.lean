/-
  Placement: what is free least, the program's; the nodes that will do; both.
-/
import Derived.Test.YtelbahebpmkfjaaGreatKB7
import Derived.Test.YtelbahebpmkfjaaGreatKB13
import Derived.Test.YtelbahebpmkfjaaGreatKB17
import Derived.Test.YtelbahebpmkfjaaGreatKB18
import Derived.Test.YtelbahebpmkfjaaGreatKB20
import Derived.Test.YtelbahebpmkfjaaGreatKB14
set_option maxRecDepth 100000
set_option maxHeartbeats 16000000
namespace Go.Proofs.YtelbahebpmkfjaaGreat
open Go Go.RowKit
attribute [local irreducible] AWp Qat OpOk ACalls ChA QsOk MCalls EnC PY

theorem Qu0 {l:List Pt} (h:ProfOk l):∀(k i:Nat),i+k+1<l.length→(nth l i).at'<(nth l (i+k+1)).at'
 | 0,i,hi=>(h.steps i hi).1
 | k+1,i,hi=>by
  have h1:=Qu0 h k i (by omega)
  have h2:=(h.steps (i+k+1) hi).1
  rw [show i+(k+1)+1=i+k+1+1 by omega]
  omega
theorem QqK {l:List Pt} (h:ProfOk l) {i j:Nat} (hij:i<j) (hj:j<l.length):(nth l i).at'<(nth l j).at':=by
 have:=Qu0 h (j - i - 1) i (by omega)
 rw [show i+(j - i - 1)+1=j by omega] at this
 exact this
theorem QnX {l:List Pt} (h:ProfOk l) {i:Nat} (hi:i<l.length) {a:Int} (ha:(nth l i).at'=a):∀(k:Nat),i+1+k≤l.length→Qbo (l.take (i+1+k)) a=(nth l i).free
 | 0,_=>by rw [Nat.add_zero,Qc2 hi,if_pos (by omega)]
 | k+1,hk=>by
  have h1:=QqK h (i:=i) (j:=i+1+k) (by omega) (by omega)
  rw [←Nat.add_assoc,Qc2 (by omega),if_neg (by omega)]
  exact QnX h hi ha k (by omega)
theorem QiY {l:List Pt} {a b:Int} {v:V3}:∀(i:Nat),i≤l.length→(∀j,j<i→(nth l j).at'<a)→QeA (l.take i) a b v=v
 | 0,_,_=>by simp [QeA]
 | i+1,hi,h=>by
  have:=h i (by omega)
  rw [Qdt (by omega),if_neg (by omega)]
  exact QiY i (by omega) fun j hj=>h j (by omega)
theorem QqY {v:V3} (h:Qal v=true):minO v v=v:=by
 rw [QuK h h]
 cases v
 simp [minV]
def Qgk (l:List Pt) (a b:Int) (v0:V3):V3:=l.foldl (fun v x=>if a<x.at'∧x.at'<b then minO v x.free else v) v0
theorem QiU {l:List Pt} {i:Nat} (h:i<l.length) (a b:Int) (v0:V3):Qgk (l.take (i+1)) a b v0=if a<(nth l i).at'∧(nth l i).at'<b then minO (Qgk (l.take i) a b v0) (nth l i).free else Qgk (l.take i) a b v0:=by
 rw [Qas h,Qgk,List.foldl_append]
 rfl
theorem QlO {l:List Pt} (h:ProfOk l) {a b:Int}:∀(i:Nat),i≤l.length→Qgk (l.take i) a b (Qbo l a)=QeA (l.take i) a b (Qbo l a)
 | 0,_=>by simp [Qgk,QeA]
 | i+1,hi=>by
  have ih:=QlO h (a:=a) (b:=b) i (by omega)
  rw [QiU (by omega),Qdt (by omega),ih]
  by_cases h1:a<(nth l i).at'∧(nth l i).at'<b
  ·rw [if_pos h1,if_pos ⟨by omega,by omega⟩]
  ·rw [if_neg h1]
   by_cases h2:a≤(nth l i).at'∧(nth l i).at'<b
   ·rw [if_pos h2]
    have e:(nth l i).at'=a:=by omega
    have hf:=QnX h (i:=i) (by omega) e (l.length - (i+1)) (by omega)
    rw [show i+1+(l.length - (i+1))=l.length by omega,List.take_length] at hf
    rw [QiY i (by omega) fun j hj=>by have:=QqK h hj (by omega);omega,hf,QqY (h.pts i (by omega)).2]
   ·rw [if_neg h2]
theorem Qre {l:List Pt} {a b:Int} (h:ProfOk l):ACalls Tryz.prog 266 [Qfn l,.d (.n .i64 a),.d (.n .i64 b)] [vecA (Qdn l a b)] []:=by
  refine Qaa tt Tryz.func266 rfl rfl rfl (fun w0 Z=>?_)
  have hpl:=QaR l
  have hln:=h.len
  repeat' (first|refine zst ?_|(refine zhm fun hb=>?_;try exact zab)|refine zg2 ?_ ?_|refine zln fun _=>?_|refine zop ?_|refine kc (Qmg (l:=l) (t:=a) (by omega)) rfl rfl ?_|fail)
  refine Qae (fun (i:Nat)=>⟨36,[(1,.d (.n .i64 a)),(2,.d (.n .i64 b)),(6,.ptr 6 0),(7,.ptr 7 0),(14,.d (.sl (ptE l))),(15,.d (.n .i64 (l.length:Nat))),(16,.d (.n .i64 i))],[(6,.box 38 (vecC zV)),(7,.box 38 (vecC (Qgk (l.take i) a b (Qbo l a))))]⟩) (fun i=>i≤l.length) (fun i=>l.length - i) 0 (by exact Nat.zero_le _) ?_ ?_
  · refine ⟨rfl,?_,?_,rfl⟩
    repeat'(first|apply And.intro|exact ze0|refine ze1 ?_|refine zei ?_ ?_|exact rfl|trivial)
    all_goals exact Stop.mk (by first|rfl|exact QaR _)
  intro i hi
  by_cases hi':i<l.length
  · have hst:=QiU (a:=a) (b:=b) (v0:=Qbo l a) hi'
    by_cases hq:a<(nth l i).at'∧(nth l i).at'<b
    · rw [if_pos hq] at hst
      obtain ⟨hq1,hq2⟩:=hq
      repeat' (first|refine zst ?_|(refine zhm fun hb=>?_;try exact zab)|refine zg2 ?_ ?_|refine zln fun _=>?_|refine zop ?_|refine kc (QsZ (a:=Qgk (l.take i) a b (Qbo l a)) (b:=(nth l i).free)) rfl rfl ?_|fail)
      refine ⟨i+1,by omega,by omega,?_⟩
      refine ⟨rfl,?_,?_,rfl⟩
      repeat'(first|apply And.intro|exact ze0|refine ze1 ?_|refine zei ?_ ?_|exact rfl|trivial)
      all_goals exact Stop.mk (by first|rfl|rw [hst])
    · rw [if_neg hq] at hst
      repeat' (first|refine zst ?_|(refine zhm fun hb=>?_;try exact zab)|refine zg2 ?_ ?_|refine zln fun _=>?_|refine zop ?_|fail)
      all_goals first
        | exact absurd ⟨by omega,by omega⟩ hq
        | (refine ⟨i+1,by omega,by omega,?_⟩
           refine ⟨rfl,?_,?_,rfl⟩
           repeat'(first|apply And.intro|exact ze0|refine ze1 ?_|refine zei ?_ ?_|exact rfl|trivial)
           all_goals exact Stop.mk (by first|rfl|rw [hst]))
  · have hfin:Qgk (l.take i) a b (Qbo l a)=Qdn l a b:=by
      rw [QlO h i hi,List.take_of_length_le (by omega)]
      rfl
    repeat' (first|refine zst ?_|(refine zhm fun hb=>?_;try exact zab)|refine zg2 ?_ ?_|refine zln fun _=>?_|refine zop ?_|fail)
    refine zr [] ?_ ?_
    repeat'(first|apply And.intro|exact ze0|refine ze1 ?_|refine zei ?_ ?_|exact rfl|trivial)
    all_goals exact Stop.mk (by first|rfl|rw [hfin])
def elB (r:Room) (need:V3) (a b:Int) (i:Nat):Bool:=nth r.up i&&Qem need (Qdn (nth r.profs i) a b)
def elU (r:Room) (need:V3) (a b:Int) (i:Nat):List Int:=((List.range i).filter (elB r need a b)).map fun (i:Nat)=>(i:Int)
def QiF (r:Room) (need:V3) (a b:Int):List Int:=elU r need a b r.profs.length
theorem Qw0 (r:Room) (need:V3) (a b:Int) (i:Nat):elU r need a b (i+1)=if elB r need a b i=true then elU r need a b i++[(i:Int)] else elU r need a b i:=by
 unfold elU
 rw [List.range_succ,List.filter_append,List.map_append]
 split
 ·rename_i h;simp [h]
 ·rename_i h;simp [h]
theorem Qm4 (r:Room) (need:V3) (a b:Int) (i:Nat):(elU r need a b i).length≤i:=by
 unfold elU
 rw [List.length_map]
 exact Nat.le_trans (List.length_filter_le _ _) (by rw [List.length_range];exact Nat.le_refl _)
end Go.Proofs.YtelbahebpmkfjaaGreat
namespace Go.Proofs.YtelbahebpmkfjaaGreat
open Go Go.RowKit
attribute [local irreducible] AWp Qat OpOk ACalls ChA QsOk MCalls EnC PY

theorem QkM {r:Room} {need:V3} {a b:Int} {i:Nat}:elB r need a b i=true↔nth r.up i=true∧Qem need (Qdn (nth r.profs i) a b)=true:=by unfold elB;rw [Bool.and_eq_true]
theorem Qpy {r:Room} {need:V3} {a b:Int} (h:RoomOk r):DC Tryz.prog 268 [QcC r,vecA need,.d (.n .i64 a),.d (.n .i64 b)] [.d (.sl (intE (QiF r need a b)))]:=by
  refine Qag tt Tryz.func268 rfl rfl rfl trivial (fun _ _=>⟨trivial,trivial⟩) (fun w0 Z O=>?_)
  have hs:=h.small
  have h1:=h.up
  have h2:=h.num
  have hpl:=Qan r.profs
  have hbl:=Qaq r.up
  repeat' (first|refine zst ?_|(refine zhm fun hb=>?_;try exact zab)|refine zdr ?_|(apply zch;exact zcg)|refine HopS.mk fun w0 Z O=>?_|exact zhk|refine zg3 ?_ ?_|refine zln fun _=>?_|refine zop ?_|fail)
  refine Qae (fun (i:Nat)=>⟨40,[(2,.d (.n .i64 a)),(3,.d (.n .i64 b)),(4,.ptr 4 0),(5,.ptr 5 0),(9,.row 12),(14,.d (.sl (QaU r.profs))),(15,.d (.n .i64 (r.profs.length:Nat))),(16,.d (.n .i64 i))],[(4,.box 212 (QgP r)),(5,.box 38 (vecC need)),(12,.row 3 (intE (elU r need a b i)) true)]⟩) (fun i=>i≤r.profs.length) (fun i=>r.profs.length - i) 0 (by exact Nat.zero_le _) ?_ ?_
  · refine ⟨rfl,?_,?_,rfl⟩
    repeat'(first|apply And.intro|exact ze0|refine ze1 ?_|refine zei ?_ ?_|exact rfl|trivial)
    all_goals exact Stop.mk (by first|rfl|exact Qan _)
  intro i hi
  have hel:=Qm4 r need a b i
  by_cases hi':i<r.profs.length
  · have hst:=Qw0 r need a b i
    have c1:=Qre (a:=a) (b:=b) (h.profs i hi')
    have c2:=Qml (a:=need) (b:=Qdn (nth r.profs i) a b)
    cases hE:elB r need a b i with
    | true=>
      rw [if_pos hE] at hst
      obtain ⟨e1,e2⟩:=QkM.1 hE
      rw [e2] at c2
      repeat' (first|refine zst ?_|(refine zhm fun hb=>?_;try exact zab)|refine zdr ?_|(apply zch;exact zcg)|refine HopS.mk fun w0 Z O=>?_|exact zhk|refine zg3 ?_ ?_|refine zln fun _=>?_|refine zop ?_|refine kc (c1) rfl rfl ?_|refine kc (c2) rfl rfl ?_|refine kq (c1) rfl rfl ?_|refine kq (c2) rfl rfl ?_|fail)
      all_goals first
        | (rw [e1] at hb;cases hb;done)
        | (refine ⟨i+1,by omega,by omega,?_⟩
           refine ⟨rfl,?_,?_,rfl⟩
           repeat'(first|apply And.intro|exact ze0|refine ze1 ?_|refine zei ?_ ?_|exact rfl|trivial)
           all_goals exact Stop.mk (by first|rfl|(rw [hst];exact Qbg _ _)))
    | false=>
      rw [if_neg (by rw [hE];simp)] at hst
      cases e2:Qem need (Qdn (nth r.profs i) a b) with
      | true=>
        rw [e2] at c2
        repeat' (first|refine zst ?_|(refine zhm fun hb=>?_;try exact zab)|refine zdr ?_|(apply zch;exact zcg)|refine HopS.mk fun w0 Z O=>?_|exact zhk|refine zg3 ?_ ?_|refine zln fun _=>?_|refine zop ?_|refine kc (c1) rfl rfl ?_|refine kc (c2) rfl rfl ?_|refine kq (c1) rfl rfl ?_|refine kq (c2) rfl rfl ?_|fail)
        all_goals first
          | (have:=QkM.2 ⟨hb,e2⟩;rw [hE] at this;cases this;done)
          | (refine ⟨i+1,by omega,by omega,?_⟩
             refine ⟨rfl,?_,?_,rfl⟩
             repeat'(first|apply And.intro|exact ze0|refine ze1 ?_|refine zei ?_ ?_|exact rfl|trivial)
             all_goals exact Stop.mk (by first|rfl|rw [hst]))
      | false=>
        rw [e2] at c2
        repeat' (first|refine zst ?_|(refine zhm fun hb=>?_;try exact zab)|refine zdr ?_|(apply zch;exact zcg)|refine HopS.mk fun w0 Z O=>?_|exact zhk|refine zg3 ?_ ?_|refine zln fun _=>?_|refine zop ?_|refine kc (c1) rfl rfl ?_|refine kc (c2) rfl rfl ?_|refine kq (c1) rfl rfl ?_|refine kq (c2) rfl rfl ?_|fail)
        all_goals
          refine ⟨i+1,by omega,by omega,?_⟩
          refine ⟨rfl,?_,?_,rfl⟩
          repeat'(first|apply And.intro|exact ze0|refine ze1 ?_|refine zei ?_ ?_|exact rfl|trivial)
          all_goals exact Stop.mk (by first|rfl|rw [hst])
  · obtain rfl:i=r.profs.length:=by omega
    repeat' (first|refine zsr ?_|(refine zhm fun hb=>?_;try exact zab)|refine zdr ?_|(apply zch;exact zcg)|refine HopS.mk fun w0 Z O=>?_|exact zhk|refine zg3 ?_ ?_|refine zln fun _=>?_|refine zop ?_|fail)
    show AWp _ _ _ _
    refine Qav 12 rfl ?_
    refine Qac ?_
    apply Qab
    exact zm () [] trivial zae zae zae
theorem Qpc {r:Room} {need:V3} {a b:Int} (h:RoomOk r) (hs:QdT a b=true):DC Tryz.prog 323 [QcC r,vecA need,.d (.n .i64 a),.d (.n .i64 b)] [.d (.sl (intE (QiF r need a b)))]:=by
  refine Qag tt Tryz.func323 rfl rfl rfl trivial (fun _ _=>⟨trivial,trivial⟩) (fun w0 Z O=>?_)
  have hs':=h.small
  have h1:=h.up
  have h2:=h.num
  have hpl:=Qan r.profs
  have hbl:=Qaq r.up
  have c0:=Qht h
  repeat' (first|refine zst ?_|(refine zhm fun hb=>?_;try exact zab)|refine zg2 ?_ ?_|refine zln fun _=>?_|refine zop ?_|refine kc (c0) rfl rfl ?_|fail)
  refine Qae (fun (i:Nat)=>⟨54,[(2,.d (.n .i64 a)),(3,.d (.n .i64 b)),(4,.ptr 4 0),(5,.ptr 5 0),(9,.row 13),(20,.d (.n .i64 (r.profs.length:Nat))),(21,.d (.n .i64 i))],[(4,.box 212 (QgP r)),(5,.box 38 (vecC need)),(13,.row 3 (intE (elU r need a b i)) true)]⟩) (fun i=>i≤r.profs.length) (fun i=>r.profs.length - i) 0 (by exact Nat.zero_le _) ?_ ?_
  · refine ⟨rfl,?_,?_,rfl⟩
    repeat'(first|apply And.intro|exact ze0|refine ze1 ?_|refine zei ?_ ?_|exact rfl|trivial)
    all_goals exact Stop.mk (by first|rfl|exact Qan _)
  intro i hi
  have hel:=Qm4 r need a b i
  by_cases hi':i<r.profs.length
  · have hst:=Qw0 r need a b i
    have hp:=h.profs i hi'
    have hpn:=hp.len
    have c1:=Qh0 (l:=nth r.profs i) (a:=a) (b:=b) (by omega)
    rw [Qbt.2 hp,hs,Bool.and_self] at c1
    have c2:=QiV (a:=need) (b:=Qdn (nth r.profs i) a b)
    cases hE:elB r need a b i with
    | true=>
      rw [if_pos hE] at hst
      obtain ⟨e1,e2⟩:=QkM.1 hE
      rw [e2] at c2
      repeat' (first|refine zst ?_|(refine zhm fun hb=>?_;try exact zab)|refine zg2 ?_ ?_|refine zln fun _=>?_|refine zop ?_|refine kc (c1) rfl rfl ?_|refine kc (c2) rfl rfl ?_|fail)
      all_goals first
        | (rw [e1] at hb;cases hb;done)
        | (refine ⟨i+1,by omega,by omega,?_⟩
           refine ⟨rfl,?_,?_,rfl⟩
           repeat'(first|apply And.intro|exact ze0|refine ze1 ?_|refine zei ?_ ?_|exact rfl|trivial)
           all_goals exact Stop.mk (by first|rfl|(rw [hst];exact Qbg _ _)))
    | false=>
      rw [if_neg (by rw [hE];simp)] at hst
      cases e2:Qem need (Qdn (nth r.profs i) a b) with
      | true=>
        rw [e2] at c2
        repeat' (first|refine zst ?_|(refine zhm fun hb=>?_;try exact zab)|refine zg2 ?_ ?_|refine zln fun _=>?_|refine zop ?_|refine kc (c1) rfl rfl ?_|refine kc (c2) rfl rfl ?_|fail)
        all_goals first
          | (have:=QkM.2 ⟨hb,e2⟩;rw [hE] at this;cases this;done)
          | (refine ⟨i+1,by omega,by omega,?_⟩
             refine ⟨rfl,?_,?_,rfl⟩
             repeat'(first|apply And.intro|exact ze0|refine ze1 ?_|refine zei ?_ ?_|exact rfl|trivial)
             all_goals exact Stop.mk (by first|rfl|rw [hst]))
      | false=>
        rw [e2] at c2
        repeat' (first|refine zst ?_|(refine zhm fun hb=>?_;try exact zab)|refine zg2 ?_ ?_|refine zln fun _=>?_|refine zop ?_|refine kc (c1) rfl rfl ?_|refine kc (c2) rfl rfl ?_|fail)
        all_goals
          refine ⟨i+1,by omega,by omega,?_⟩
          refine ⟨rfl,?_,?_,rfl⟩
          repeat'(first|apply And.intro|exact ze0|refine ze1 ?_|refine zei ?_ ?_|exact rfl|trivial)
          all_goals exact Stop.mk (by first|rfl|rw [hst])
  · obtain rfl:i=r.profs.length:=by omega
    repeat' (first|refine zsr ?_|(refine zhm fun hb=>?_;try exact zab)|refine zg2 ?_ ?_|refine zln fun _=>?_|refine zop ?_|fail)
    show AWp _ _ _ _
    refine Qav 13 rfl ?_
    refine Qac ?_
    apply Qab
    exact zm () [] trivial zae zae zae
end Go.Proofs.YtelbahebpmkfjaaGreat
namespace Go.Proofs.YtelbahebpmkfjaaGreat
open Go Go.RowKit
attribute [local irreducible] AWp Qat OpOk ACalls ChA QsOk MCalls EnC PY

theorem Qwu {r:Room} {need:V3} {a b:Int} (i:Nat):risI (elU r need a b i):=by
 unfold risI elU
 rw [List.pairwise_map]
 exact (List.pairwise_lt_range.filter _).imp fun h=>by omega
theorem QqG {r:Room} {need:V3} {a b:Int} {x:Int} (h:x∈QiF r need a b):0≤x∧x<r.profs.length:=by
 obtain ⟨i,hi,rfl⟩:=List.mem_map.1 h
 have:=List.mem_range.1 (List.mem_filter.1 hi).1
 omega
theorem QkZ {r:Room} (h:RoomOk r) {need:V3} {a b:Int}:Qbj r.topo (QiF r need a b):=QfD.2 fun x hx=>by
 have:=QqG hx
 have:=h.num
 omega
theorem Qrr {r:Room} {need:V3} {a b:Int}:ascP (QiF r need a b):=fun j hj=>by
 have h:=List.pairwise_iff_getElem.1 (Qwu (r:=r) (need:=need) (a:=a) (b:=b) r.profs.length) j (j+1) (by show j<(QiF r need a b).length;omega) hj (by omega)
 rw [Qa8 (by omega),Qa8 hj]
 exact h
theorem Ql9 {r:Room} {need:V3} {a b:Int}:(QiF r need a b).length≤r.profs.length:=Qm4 _ _ _ _ _
def tmS (a:Int) (out:List Int) (x:Int):List Int:=if a<x∧hasI out x=false then rise x out else out
def tmP (a:Int) (out:List Int) (p:List Pt):List Int:=p.foldl (fun o x=>tmS a o x.at') out
def tmL (a:Int) (ps:List (List Pt)):List Int:=ps.foldl (tmP a) [a]
theorem QsS {a:Int} {out:List Int} {p:List Pt} {i:Nat} (h:i<p.length):tmP a out (p.take (i+1))=tmS a (tmP a out (p.take i)) (nth p i).at':=by
 rw [Qas h,tmP,List.foldl_append]
 rfl
theorem Qn5 {a:Int} {ps:List (List Pt)} {i:Nat} (h:i<ps.length):tmL a (ps.take (i+1))=tmP a (tmL a (ps.take i)) (nth ps i):=by
 rw [Qas h,tmL,List.foldl_append]
 rfl
theorem QmV {a:Int}:∀(p:List Pt) (out:List Int),(tmP a out p).length≤out.length+p.length
 | [],out=>Nat.le_refl _
 | x::p,out=>by
  have h:=QmV (a:=a) p (tmS a out x.at')
  have h2:(tmS a out x.at').length≤out.length+1:=by
   unfold tmS
   split
   ·rw [QhQ];exact Nat.le_refl _
   ·omega
  show (tmP a (tmS a out x.at') p).length≤_
  rw [List.length_cons]
  omega
theorem QmU {a:Int} {ps:List (List Pt)} (h:∀p∈ps,p.length≤200):∀(i:Nat),i≤ps.length→(tmL a (ps.take i)).length≤1+200 * i
 | 0,_=>by simp [tmL]
 | i+1,hi=>by
  have h1:=QmU (a:=a) h i (by omega)
  have h2:=h _ (QaO (show i<ps.length by omega))
  rw [Qn5 (by omega)]
  have:=QmV (a:=a) (nth ps i) (tmL a (ps.take i))
  omega
theorem QkP {n x:Int}:∀{l:List Int},x∈rise n l↔x=n∨x∈l
 | []=>by simp [rise]
 | y::l=>by
  unfold rise
  split
  ·simp
  ·rw [List.mem_cons,QkP (l:=l),List.mem_cons]
   constructor
   ·rintro (h|h|h)
    ·exact .inr (.inl h)
    ·exact .inl h
    ·exact .inr (.inr h)
   ·rintro (h|h|h)
    ·exact .inr (.inl h)
    ·exact .inl h
    ·exact .inr (.inr h)
theorem Qor {n:Int}:∀{l:List Int},risI l→n∉l→risI (rise n l)
 | [],_,_=>by simp [rise,risI]
 | y::l,h,hn=>by
  unfold risI at h
  have h':=List.pairwise_cons.1 h
  have hy:n≠y:=fun e=>hn (e▸List.mem_cons_self)
  unfold rise
  split
  ·rename_i hlt
   refine List.pairwise_cons.2 ⟨fun z hz=>?_,h⟩
   rcases List.mem_cons.1 hz with rfl|hz
   ·omega
   ·have:=h'.1 z hz;omega
  ·rename_i hlt
   refine List.pairwise_cons.2 ⟨fun z hz=>?_,Qor h'.2 fun e=>hn (List.mem_cons_of_mem _ e)⟩
   rcases QkP.1 hz with rfl|hz
   ·omega
   ·exact h'.1 z hz
theorem QvM {a x:Int} {out:List Int} (h:risI out):risI (tmS a out x)∧∀y,y∈tmS a out x↔y∈out∨a<x∧y=x:=by
 unfold tmS
 split
 ·rename_i hc
  have hn:x∉out:=fun e=>by rw [Qc6.2 e] at hc;cases hc.2
  refine ⟨Qor h hn,fun y=>?_⟩
  rw [QkP]
  exact ⟨fun e=>e.elim (fun e=>.inr ⟨hc.1,e⟩) .inl,fun e=>e.elim .inr fun e=>.inl e.2⟩
 ·rename_i hc
  refine ⟨h,fun y=>⟨.inl,fun e=>e.elim id fun e=>?_⟩⟩
  cases hh:hasI out x with
  | true=>rw [e.2];exact Qc6.1 hh
  | false=>exact absurd ⟨e.1,hh⟩ hc
theorem Qso {a:Int}:∀{p:List Pt} {out:List Int},risI out→risI (tmP a out p)∧∀y,y∈tmP a out p↔y∈out∨∃x∈p,a<x.at'∧y=x.at'
 | [],out,h=>⟨h,fun y=>by simp [tmP]⟩
 | x::p,out,h=>by
  obtain ⟨h1,h2⟩:=QvM (a:=a) (x:=x.at') h
  obtain ⟨h3,h4⟩:=Qso (a:=a) (p:=p) h1
  refine ⟨h3,fun y=>?_⟩
  rw [show tmP a out (x::p)=tmP a (tmS a out x.at') p from rfl,h4,h2]
  constructor
  ·rintro ((h|h)|⟨z,hz,h⟩)
   ·exact .inl h
   ·exact .inr ⟨x,List.mem_cons_self,h⟩
   ·exact .inr ⟨z,List.mem_cons_of_mem _ hz,h⟩
  ·rintro (h|⟨z,hz,h⟩)
   ·exact .inl (.inl h)
   ·rcases List.mem_cons.1 hz with rfl|hz
    ·exact .inl (.inr h)
    ·exact .inr ⟨z,hz,h⟩
theorem QqV {a:Int}:∀{ps:List (List Pt)} {out:List Int},risI out→risI (ps.foldl (tmP a) out)∧∀y,y∈ps.foldl (tmP a) out↔y∈out∨∃p∈ps,∃x∈p,a<x.at'∧y=x.at'
 | [],out,h=>⟨h,fun y=>by simp⟩
 | p::ps,out,h=>by
  obtain ⟨h1,h2⟩:=Qso (a:=a) (p:=p) h
  obtain ⟨h3,h4⟩:=QqV (a:=a) (ps:=ps) h1
  refine ⟨h3,fun y=>?_⟩
  rw [List.foldl_cons,h4,h2]
  constructor
  ·rintro ((h|h)|⟨z,hz,h⟩)
   ·exact .inl h
   ·exact .inr ⟨p,List.mem_cons_self,h⟩
   ·exact .inr ⟨z,List.mem_cons_of_mem _ hz,h⟩
  ·rintro (h|⟨z,hz,h⟩)
   ·exact .inl (.inl h)
   ·rcases List.mem_cons.1 hz with rfl|hz
    ·exact .inl (.inr h)
    ·exact .inr ⟨z,hz,h⟩
def timR (r:Room) (a:Int):List Int:=tmL a (r.profs++[r.lics])
theorem Qkl (r:Room) (a:Int):risI (timR r a)∧∀y,y∈timR r a↔y=a∨∃p∈r.profs++[r.lics],∃x∈p,a<x.at'∧y=x.at':=by
 obtain ⟨h1,h2⟩:=QqV (a:=a) (ps:=r.profs++[r.lics]) (out:=[a]) (by simp [risI])
 exact ⟨h1,fun y=>by rw [show timR r a=(r.profs++[r.lics]).foldl (tmP a) [a] from rfl,h2,List.mem_singleton]⟩
theorem RoomOk.parts {r:Room} (h:RoomOk r):∀p∈r.profs++[r.lics],ProfOk p:=fun p hp=>by
 rcases List.mem_append.1 hp with hp|hp
 ·obtain ⟨j,hj,rfl⟩:=QbB hp
  exact h.profs j hj
 ·rw [List.mem_singleton.1 hp];exact h.lics
theorem Qm9 {r:Room} (h:RoomOk r) {a:Int} (ha:0≤a∧a≤1000000000):∀y∈timR r a,a≤y∧y≤1000000000:=fun y hy=>by
 rcases ((Qkl r a).2 y).1 hy with rfl|⟨p,hp,x,hx,h1,rfl⟩
 ·omega
 ·obtain ⟨j,hj,rfl⟩:=QbB hx
  have:=((h.parts p hp).pts j hj).1
  omega
theorem QoB {r:Room} (h:RoomOk r) (a:Int):(timR r a).length≤10000:=by
 have hs:=h.small
 have h1:=QmU (a:=a) (fun p hp=>(h.parts p hp).len.2) (r.profs++[r.lics]).length (Nat.le_refl _)
 rw [List.take_length] at h1
 have h2:(r.profs++[r.lics]).length≤25:=by rw [List.length_append,List.length_singleton];omega
 show (tmL a _).length≤_
 omega
def canO (r:Room) (j:Job) (t:Int):Option (List Int):=if t+j.wall≤1000000000∧Qem j.lic (Qdn r.lics t (t+j.wall))=true then QdB r.topo (QiF r j.need t (t+j.wall)) j.nodes j.level else none
def QfP (r:Room) (j:Job):List Int→Option (Int×List Int)
 | []=>none
 | t::ts=>match canO r j t with
  | some l=>some (t,l)
  | none=>QfP r j ts
def earO (r:Room) (j:Job) (a:Int):Option (Int×List Int):=QfP r j (timR r a)
@[reducible] def earA (o:Option (Int×List Int)):List AV:=[.d (.n .i64 ((o.map Prod.fst).getD 0)),.d (.sl (intE ((o.map Prod.snd).getD []))),.d (.b o.isSome)]
theorem QiJ {l:List Int} {i:Nat} (h:i<l.length):l.drop i=nth l i::l.drop (i+1):=by rw [Qa8 h];exact List.drop_eq_getElem_cons h
theorem QjG (l:List (List Pt)) (p:List Pt):QaU l++[[.sl (ptE p)]]=QaU (l++[p]):=by simp [QaU]
theorem QpN {r:Room} {a:Int} (h:RoomOk r):DC Tryz.prog 296 [QcC r,.d (.n .i64 a)] [.d (.sl (intE (timR r a)))]:=by
 refine Qag tt Tryz.func296 rfl rfl rfl trivial (fun _ _=>⟨trivial,trivial⟩) (fun w0 Z O=>?_)
 have hs:=h.small
 have hpl:=Qan r.profs
 have hpl2:=Qan (r.profs++[r.lics])
 have hal:(r.profs++[r.lics]).length=r.profs.length+1:=by simp
 have hpr:=h.parts
 unfold timR
 repeat' (first|(refine Qaj 2 11 rfl ?_)|refine zst ?_|(refine zhm fun hb=>?_;try exact zab)|refine zdr ?_|(apply zch;exact zcg)|refine HopS.mk fun w0 Z O=>?_|exact zhk|refine zg3 ?_ ?_|refine zln fun _=>?_|refine zop ?_|fail)
 refine Qav 12 rfl ?_
 generalize hps:r.profs++[r.lics]=ps at *
 refine Qae (fun (i:Nat)=>⟨50,[(1,.d (.n .i64 a)),(5,.d (.sl (intE (tmL a (ps.take i))))),(19,.d (.sl (QaU ps))),(20,.d (.n .i64 (ps.length:Nat))),(21,.d (.n .i64 i))],[]⟩) (fun i=>i≤ps.length) (fun i=>ps.length - i) 0 (by exact Nat.zero_le _) ?_ ?_
 ·refine ⟨rfl,?_,?_,rfl⟩
  repeat'(first|apply And.intro|exact ze0|refine ze1 ?_|refine zei ?_ ?_|exact rfl|trivial)
  all_goals exact Stop.mk (by first|rfl|(rw [List.nil_append,QjG,hps,hpl2])|(rw [List.nil_append,QjG,hps]))
 intro i hi
 have htl:=QmU (a:=a) (fun p hp=>(hpr p hp).len.2) i hi
 by_cases hi':i<ps.length
 ·have hst:=Qn5 (a:=a) hi'
  have hp:=hpr _ (QaO hi')
  have hpn:=hp.len
  generalize hpe:nth ps i=p at hst hp hpn
  have hpl3:=QaR p
  generalize tmL a (ps.take i)=o at hst htl ⊢
  repeat' (first|refine zst ?_|(refine zhm fun hb=>?_;try exact zab)|refine zdr ?_|(apply zch;exact zcg)|refine HopS.mk fun w0 Z O=>?_|exact zhk|refine zg3 ?_ ?_|refine zln fun _=>?_|refine zop ?_|fail)
  refine Qae (fun (k:Nat)=>⟨50,[(1,.d (.n .i64 a)),(5,.d (.sl (intE (tmP a o (p.take k))))),(19,.d (.sl (QaU ps))),(20,.d (.n .i64 (ps.length:Nat))),(21,.d (.n .i64 i)),(26,.d (.sl (ptE p))),(27,.d (.n .i64 (p.length:Nat))),(28,.d (.n .i64 k))],[]⟩) (fun k=>k≤p.length) (fun k=>p.length - k) 0 (by exact Nat.zero_le _) ?_ ?_
  ·refine ⟨rfl,?_,?_,rfl⟩
   repeat'(first|apply And.intro|exact ze0|refine ze1 ?_|refine zei ?_ ?_|exact rfl|trivial)
   all_goals exact Stop.mk (by first|rfl|exact hpl3|rw [←hpe]|(rw [hpe];exact hpl3))
  intro k hk
  have htp:=QmV (a:=a) (p.take k) o
  rw [List.length_take] at htp
  by_cases hk':k<p.length
  ·have hst2:=QsS (a:=a) (out:=o) hk'
   have hpk:=(hp.pts k hk').1
   generalize tmP a o (p.take k)=q at hst2 htp ⊢
   unfold tmS at hst2
   have c1:=Qc4 (l:=q) (x:=(nth p k).at') (by omega)
   cases hh:hasI q (nth p k).at' with
   | true=>
    rw [hh] at c1
    rw [hh,if_neg (fun e=>by cases e.2)] at hst2
    repeat' (first|refine zst ?_|(refine zhm fun hb=>?_;try exact zab)|refine zdr ?_|(apply zch;exact zcg)|refine HopS.mk fun w0 Z O=>?_|exact zhk|refine zg3 ?_ ?_|refine zln fun _=>?_|refine zop ?_|refine kc (c1) rfl rfl ?_|refine kq (c1) rfl rfl ?_|fail)
    all_goals
     refine ⟨k+1,by omega,by omega,?_⟩
     refine ⟨rfl,?_,?_,rfl⟩
     repeat'(first|apply And.intro|exact ze0|refine ze1 ?_|refine zei ?_ ?_|exact rfl|trivial)
     all_goals exact Stop.mk (by first|rfl|rw [hst2])
   | false=>
    rw [hh] at c1
    rw [hh] at hst2
    repeat' (first|refine zst ?_|(refine zhm fun hb=>?_;try exact zab)|refine zdr ?_|(apply zch;exact zcg)|refine HopS.mk fun w0 Z O=>?_|exact zhk|refine zg3 ?_ ?_|refine zln fun _=>?_|refine zop ?_|refine kc (c1) rfl rfl ?_|(refine km [] (Qlh (l:=q) (n:=(nth p k).at') (by omega)) rfl rfl (fun i hi=>?_);(try dsimp only at hi))|refine kq (c1) rfl rfl ?_|fail)
    ·rw [if_pos ⟨by assumption,rfl⟩] at hst2
     refine ⟨k+1,by omega,by omega,?_⟩
     refine ⟨rfl,?_,?_,rfl⟩
     repeat'(first|apply And.intro|exact ze0|refine ze1 ?_|refine zei ?_ ?_|exact rfl|trivial)
     all_goals exact Stop.mk (by first|rfl|rw [hst2])
    ·rw [if_neg (fun e=>by have:=e.1;omega)] at hst2
     refine ⟨k+1,by omega,by omega,?_⟩
     refine ⟨rfl,?_,?_,rfl⟩
     repeat'(first|apply And.intro|exact ze0|refine ze1 ?_|refine zei ?_ ?_|exact rfl|trivial)
     all_goals exact Stop.mk (by first|rfl|rw [hst2])
  ·obtain rfl:k=p.length:=by omega
   rw [List.take_length] at *
   repeat' (first|refine zst ?_|(refine zhm fun hb=>?_;try exact zab)|refine zdr ?_|(apply zch;exact zcg)|refine HopS.mk fun w0 Z O=>?_|exact zhk|refine zg3 ?_ ?_|refine zln fun _=>?_|refine zop ?_|fail)
   refine ⟨i+1,by omega,by omega,?_⟩
   refine ⟨rfl,?_,?_,rfl⟩
   repeat'(first|apply And.intro|exact ze0|refine ze1 ?_|refine zei ?_ ?_|exact rfl|trivial)
   all_goals exact Stop.mk (by first|rfl|rw [hst])
 ·obtain rfl:i=ps.length:=by omega
  rw [List.take_length] at *
  repeat' (first|refine zsr ?_|(refine zhm fun hb=>?_;try exact zab)|refine zdr ?_|(apply zch;exact zcg)|refine HopS.mk fun w0 Z O=>?_|exact zhk|refine zg3 ?_ ?_|refine zln fun _=>?_|refine zop ?_|fail)
  show AWp _ _ _ _
  refine Qac ?_
  apply Qab
  exact zm () [] trivial zae zae zae
end Go.Proofs.YtelbahebpmkfjaaGreat
namespace Go.Proofs.YtelbahebpmkfjaaGreat
open Go Go.RowKit
attribute [local irreducible] AWp Qat OpOk ACalls ChA QsOk MCalls EnC PY

theorem QsV {r:Room} {j:Job} {t:Int} (h:RoomOk r) (hj:Qau j=true) (ht:0≤t∧t≤1000000000):DC Tryz.prog 297 [QcC r,jobA j,.d (.n .i64 t)] (optI (canO r j t)):=by
 refine Qag tt Tryz.func297 rfl rfl rfl trivial (fun _ _=>⟨trivial,trivial⟩) (fun w0 Z O=>?_)
 have hs:=h.small
 obtain ⟨j1,j2⟩:=Qcg hj
 have hln:=h.lics.len
 have c1:=Qh0 (l:=r.lics) (a:=t) (b:=t+j.wall) (by omega)
 rw [Qbt.2 h.lics,Bool.true_and] at c1
 have c2:=QiV (a:=j.lic) (b:=Qdn r.lics t (t+j.wall))
 by_cases hw:t+j.wall≤1000000000
 ·have hsp:QdT t (t+j.wall)=true:=QdC.2 ⟨by omega,by omega,by omega⟩
  rw [hsp] at c1
  cases hf:Qem j.lic (Qdn r.lics t (t+j.wall)) with
  | false=>
   rw [hf] at c2
   rw [show canO r j t=none from if_neg (fun e=>by rw [hf] at e;cases e.2)]
   repeat' (first|refine zsr ?_|(refine zhm fun hb=>?_;try exact zab)|refine zdr ?_|(apply zch;exact zcg)|refine HopS.mk fun w0 Z O=>?_|exact zhk|refine zg3 ?_ ?_|refine zon ?_|refine kc (c1) rfl rfl ?_|refine kc (c2) rfl rfl ?_|refine kq (c1) rfl rfl ?_|refine kq (c2) rfl rfl ?_|fail)
   show AWp _ _ _ _
   refine Qac ?_
   apply Qab
   exact zm () [] trivial zae zae zae
  | true=>
   rw [hf] at c2
   rw [show canO r j t=QdB r.topo (QiF r j.need t (t+j.wall)) j.nodes j.level from if_pos ⟨hw,hf⟩]
   have hel:=Ql9 (r:=r) (need:=j.need) (a:=t) (b:=t+j.wall)
   have c3:=Qpc (need:=j.need) h hsp
   have c4:=Quy (most:=j.level) h.topo (QkZ h (need:=j.need) (a:=t) (b:=t+j.wall)) Qrr j1.1 (by omega)
   repeat' (first|refine zsr ?_|(refine zhm fun hb=>?_;try exact zab)|(apply QaT 4;kernel_rfl;exact rfl)|refine zdr ?_|(apply zch;exact zcg)|refine HopS.mk fun w0 Z O=>?_|exact zhk|refine zg3 ?_ ?_|refine zon ?_|refine kc (c1) rfl rfl ?_|refine kc (c2) rfl rfl ?_|(refine km [] (c3) rfl rfl (fun i hi=>?_);(try dsimp only at hi))|(refine km [] (c4) rfl rfl (fun i hi=>?_);(try dsimp only at hi))|refine kq (c1) rfl rfl ?_|refine kq (c2) rfl rfl ?_|fail)
   show AWp _ _ _ _
   refine Qac ?_
   apply Qab
   exact zm () [] trivial zae zae zae
 ·rw [show canO r j t=none from if_neg (fun e=>hw e.1)]
  have hsp:QdT t (t+j.wall)=false:=by
   cases e:QdT t (t+j.wall) with
   | false=>rfl
   | true=>have:=QdC.1 e;omega
  rw [hsp] at c1
  repeat' (first|refine zsr ?_|(refine zhm fun hb=>?_;try exact zab)|refine zdr ?_|(apply zch;exact zcg)|refine HopS.mk fun w0 Z O=>?_|exact zhk|refine zg3 ?_ ?_|refine zon ?_|refine kc (c1) rfl rfl ?_|refine kq (c1) rfl rfl ?_|fail)
  show AWp _ _ _ _
  refine Qac ?_
  apply Qab
  exact zm () [] trivial zae zae zae
theorem Qg0 {r:Room} {j:Job} {a:Int} (h:RoomOk r) (hj:Qau j=true) (ha:0≤a∧a≤1000000000):DC Tryz.prog 244 [QcC r,jobA j,.d (.n .i64 a)] (earA (earO r j a)):=by
 refine Qag tt Tryz.func244 rfl rfl rfl trivial (fun _ _=>⟨trivial,trivial⟩) (fun w0 Z O=>?_)
 have c0:=Qht h
 have c1:=QiD (j:=j)
 rw [hj] at c1
 have c2:=Qce (x:=a)
 rw [show inB a 0 1000000000=true from QcM.mpr ha] at c2
 have htl:=QoB h a
 have hti:=Qm9 h ha
 have c3:=QpN (a:=a) h
 unfold earO
 generalize timR r a=ts at *
 have hle:=Qad ts
 repeat' (first|refine zst ?_|(refine zhm fun hb=>?_;try exact zab)|refine zg2 ?_ ?_|refine zln fun _=>?_|refine zop ?_|refine kc (c0) rfl rfl ?_|refine kc (c1) rfl rfl ?_|refine kc (c2) rfl rfl ?_|(refine km [] (c3) rfl rfl (fun i hi=>?_);(try dsimp only at hi))|fail)
 refine Qae (fun (i:Nat)=>⟨45,[(3,.ptr 3 0),(4,.ptr 4 0),(28,.d (.sl (intE ts))),(29,.d (.n .i64 (ts.length:Nat))),(30,.d (.n .i64 i))],[(3,.box 212 (QgP r)),(4,.box 78 ((jobD j).map AV.d))]⟩) (fun i=>i≤ts.length∧QfP r j (ts.drop i)=QfP r j ts) (fun i=>ts.length - i) 0 (by exact ⟨Nat.zero_le _,rfl⟩) ?_ ?_
 ·refine ⟨rfl,?_,?_,rfl⟩
  repeat'(first|apply And.intro|exact ze0|refine ze1 ?_|refine zei ?_ ?_|exact rfl|trivial)
  all_goals exact Stop.mk (by first|rfl|exact hle)
 rintro k ⟨hk,hg⟩
 by_cases hk':k<ts.length
 ·have htm:=hti _ (QaO hk')
  rw [QiJ hk',QfP] at hg
  have c4:=QsV (t:=nth ts k) h hj (by omega)
  cases hc:canO r j (nth ts k) with
  | none=>
   rw [hc] at hg c4
   dsimp only at hg
   repeat' (first|refine zst ?_|(refine zhm fun hb=>?_;try exact zab)|refine zg2 ?_ ?_|refine zln fun _=>?_|refine zop ?_|(refine km [] (c4) rfl rfl (fun i hi=>?_);(try dsimp only at hi))|fail)
   refine ⟨k+1,⟨by omega,hg⟩,by omega,?_⟩
   exact ⟨rfl,zae,zae,rfl⟩
  | some l=>
   rw [hc] at hg c4
   dsimp only at hg
   rw [←hg]
   repeat' (first|refine zsr ?_|(refine zhm fun hb=>?_;try exact zab)|refine zg2 ?_ ?_|refine zln fun _=>?_|refine zop ?_|(refine km [] (c4) rfl rfl (fun i hi=>?_);(try dsimp only at hi))|fail)
   show AWp _ _ _ _
   refine Qac ?_
   apply Qab
   exact zm () [] trivial zae zae zae
 ·rw [List.drop_eq_nil_of_le (by omega),QfP] at hg
  rw [←hg]
  repeat' (first|refine zsr ?_|(refine zhm fun hb=>?_;try exact zab)|refine zg2 ?_ ?_|refine zln fun _=>?_|refine zop ?_|fail)
  show AWp _ _ _ _
  refine Qac ?_
  apply Qab
  exact zm () [] trivial zae zae zae
end Go.Proofs.YtelbahebpmkfjaaGreat
namespace Go.Proofs.YtelbahebpmkfjaaGreat
open Go Go.RowKit
attribute [local irreducible] AWp Qat OpOk ACalls ChA QsOk MCalls EnC PY

def tnP (a:Int) (out:List Int) (p:List Pt):List Int:=p.foldl (fun o x=>if a<x.at' then o++[x.at'] else o) out
def tnL (a:Int) (ps:List (List Pt)):List Int:=ps.foldl (tnP a) [a]
theorem Quw {a:Int} {out:List Int} {p:List Pt} {i:Nat} (h:i<p.length):tnP a out (p.take (i+1))=if a<(nth p i).at' then tnP a out (p.take i)++[(nth p i).at'] else tnP a out (p.take i):=by
 rw [Qas h,tnP,List.foldl_append]
 rfl
theorem Qog {a:Int} {ps:List (List Pt)} {i:Nat} (h:i<ps.length):tnL a (ps.take (i+1))=tnP a (tnL a (ps.take i)) (nth ps i):=by
 rw [Qas h,tnL,List.foldl_append]
 rfl
theorem Qm5 {a:Int}:∀(p:List Pt) (out:List Int),(tnP a out p).length≤out.length+p.length
 | [],out=>Nat.le_refl _
 | x::p,out=>by
  have h:=Qm5 (a:=a) p (if a<x.at' then out++[x.at'] else out)
  have h2:(if a<x.at' then out++[x.at'] else out).length≤out.length+1:=by
   split
   ·simp
   ·omega
  show (tnP a (if a<x.at' then out++[x.at'] else out) p).length≤_
  rw [List.length_cons]
  omega
theorem Qsi {a:Int} {ps:List (List Pt)} (h:∀p∈ps,p.length≤200):∀(i:Nat),i≤ps.length→(tnL a (ps.take i)).length≤1+200 * i
 | 0,_=>by simp [tnL]
 | i+1,hi=>by
  have h1:=Qsi (a:=a) h i (by omega)
  have h2:=h _ (QaO (show i<ps.length by omega))
  rw [Qog (by omega)]
  have:=Qm5 (a:=a) (nth ps i) (tnL a (ps.take i))
  omega
theorem QpW {a y:Int}:∀{p:List Pt} {out:List Int},y∈tnP a out p↔y∈out∨∃x∈p,a<x.at'∧y=x.at'
 | [],out=>by simp [tnP]
 | x::p,out=>by
  rw [show tnP a out (x::p)=tnP a (if a<x.at' then out++[x.at'] else out) p from rfl,QpW]
  have h2:y∈(if a<x.at' then out++[x.at'] else out)↔y∈out∨a<x.at'∧y=x.at':=by
   split
   ·rename_i h;simp [h]
   ·rename_i h;simp [h]
  rw [h2]
  constructor
  ·rintro ((h|h)|⟨z,hz,h⟩)
   ·exact .inl h
   ·exact .inr ⟨x,List.mem_cons_self,h⟩
   ·exact .inr ⟨z,List.mem_cons_of_mem _ hz,h⟩
  ·rintro (h|⟨z,hz,h⟩)
   ·exact .inl (.inl h)
   ·rcases List.mem_cons.1 hz with rfl|hz
    ·exact .inl (.inr h)
    ·exact .inr ⟨z,hz,h⟩
theorem Qsf {a y:Int}:∀{ps:List (List Pt)} {out:List Int},y∈ps.foldl (tnP a) out↔y∈out∨∃p∈ps,∃x∈p,a<x.at'∧y=x.at'
 | [],out=>by simp
 | p::ps,out=>by
  rw [List.foldl_cons,Qsf,QpW]
  constructor
  ·rintro ((h|h)|⟨z,hz,h⟩)
   ·exact .inl h
   ·exact .inr ⟨p,List.mem_cons_self,h⟩
   ·exact .inr ⟨z,List.mem_cons_of_mem _ hz,h⟩
  ·rintro (h|⟨z,hz,h⟩)
   ·exact .inl (.inl h)
   ·rcases List.mem_cons.1 hz with rfl|hz
    ·exact .inl (.inr h)
    ·exact .inr ⟨z,hz,h⟩
theorem Qv8 (r:Room) (a:Int):cmpL (srtI (tnL a ([r.lics]++r.profs)))=timR r a:=by
 obtain ⟨h1,h2⟩:=Qkl r a
 obtain ⟨h3,h4⟩:=Qny (Qm3 (tnL a ([r.lics]++r.profs)))
 refine QgT h3 h1 fun y=>?_
 rw [h4,Qns,h2,show tnL a ([r.lics]++r.profs)=([r.lics]++r.profs).foldl (tnP a) [a] from rfl,Qsf,List.mem_singleton]
 refine or_congr_right ⟨?_,?_⟩
 ·rintro ⟨p,hp,h⟩
  exact ⟨p,by rcases List.mem_append.1 hp with hp|hp <;> simp_all,h⟩
 ·rintro ⟨p,hp,h⟩
  exact ⟨p,by rcases List.mem_append.1 hp with hp|hp <;> simp_all,h⟩
theorem Qjp {r:Room} {j:Job}:∀{ts:List Int},(∀t∈ts,canO r j t=none)→QfP r j ts=none
 | [],_=>rfl
 | t::ts,h=>by
  rw [QfP,h t List.mem_cons_self]
  exact Qjp fun t ht=>h t (List.mem_cons_of_mem _ ht)
theorem Qvo {ts:List Int} (h:risI ts) {k:Nat} (hk:k<ts.length):∀t∈ts.drop k,nth ts k≤t:=fun t ht=>by
 obtain ⟨i,hi,rfl⟩:=List.getElem_of_mem ht
 rw [List.getElem_drop,Qa8 hk]
 rw [List.length_drop] at hi
 by_cases e:i=0
 ·subst e;simp
 ·have:=List.pairwise_iff_getElem.1 h k (k+i) hk (by omega) (by omega)
  omega
theorem Qi0 (l:List (List Pt)) (p:List Pt):[[.sl (ptE p)]]++QaU l=QaU ([p]++l):=by simp [QaU]
@[reducible] def earR (o:Option (Int×List Int)):List AV:=match o with
 | none=>[.d (.n .i64 0),.d (.sl []),.d (.b false)]
 | some x=>[.d (.n .i64 x.1),.row 0,.d (.b true)]
@[reducible] def earB (o:Option (Int×List Int)):List (Nat×AO):=match o with
 | none=>[]
 | some x=>[(0,.row 3 (intE x.2) true)]
theorem QjQ {r:Room} {j:Job} {a:Int} (h:RoomOk r) (hj:Qau j=true) (ha:0≤a∧a≤1000000000):MCalls Tryz.prog 204 [QcC r,jobA j,.d (.n .i64 a)] [] (fun _:Unit=>True) (fun _=>earR (earO r j a)) (fun _=>[]) (fun _=>earB (earO r j a)):=by
 refine Qag tt Tryz.func204 rfl rfl rfl trivial (fun _ _=>⟨trivial,trivial⟩) (fun w0 Z O=>?_)
 have hs:=h.small
 obtain ⟨j1,j2⟩:=Qcg hj
 have c0:=Qhx h
 have c1:=QeC (j:=j)
 rw [hj] at c1
 have c2:=QcB (x:=a)
 rw [show inB a 0 1000000000=true from QcM.mpr ha] at c2
 have hpl:=Qan r.profs
 have hpl2:=Qan ([r.lics]++r.profs)
 have hal:([r.lics]++r.profs).length=r.profs.length+1:=by simp
 have hpr:∀p∈[r.lics]++r.profs,ProfOk p:=fun p hp=>h.parts p (by rcases List.mem_append.1 hp with hp|hp <;> simp_all)
 have htr:=Qv8 r a
 have htl0:=QoB h a
 have hti:=Qm9 h ha
 have htris:=(Qkl r a).1
 unfold earO
 generalize timR r a=ts at *
 have hle:=Qad ts
 repeat' (first|refine zst ?_|(refine zhm fun hb=>?_;try exact zab)|refine zdr ?_|(apply zch;exact zcg)|refine HopS.mk fun w0 Z O=>?_|exact zhk|refine zg3 ?_ ?_|refine zln fun _=>?_|refine zop ?_|refine kc (c0) rfl rfl ?_|refine kc (c1) rfl rfl ?_|refine kc (c2) rfl rfl ?_|refine kq (c0) rfl rfl ?_|refine kq (c1) rfl rfl ?_|refine kq (c2) rfl rfl ?_|fail)
 refine Qav 35 rfl ?_
 generalize hps:[r.lics]++r.profs=ps at *
 refine Qae (fun (i:Nat)=>⟨111,[(2,.d (.n .i64 a)),(3,.ptr 3 0),(4,.ptr 4 0),(9,.row 32),(38,.d (.sl (QaU ps))),(39,.d (.n .i64 (ps.length:Nat))),(40,.d (.n .i64 i))],[(3,.box 212 (QgP r)),(4,.box 78 ((jobD j).map AV.d)),(32,.row 3 (intE (tnL a (ps.take i))) true)]⟩) (fun i=>i≤ps.length) (fun i=>ps.length - i) 0 (by exact Nat.zero_le _) ?_ ?_
 ·refine ⟨rfl,?_,?_,rfl⟩
  repeat'(first|apply And.intro|exact ze0|refine ze1 ?_|refine zei ?_ ?_|exact rfl|trivial)
  all_goals exact Stop.mk (by first|rfl|(rw [Qi0,hps,hpl2])|(rw [Qi0,hps]))
 intro q hq
 have htl:=Qsi (a:=a) (fun p hp=>(hpr p hp).len.2) q hq
 by_cases hq':q<ps.length
 ·have hst:=Qog (a:=a) hq'
  have hp:=hpr _ (QaO hq')
  have hpn:=hp.len
  generalize hpe:nth ps q=p at hst hp hpn
  have hpl3:=QaR p
  generalize tnL a (ps.take q)=o at hst htl ⊢
  repeat' (first|refine zst ?_|(refine zhm fun hb=>?_;try exact zab)|refine zdr ?_|(apply zch;exact zcg)|refine HopS.mk fun w0 Z O=>?_|exact zhk|refine zg3 ?_ ?_|refine zln fun _=>?_|refine zop ?_|fail)
  refine Qae (fun (k:Nat)=>⟨111,[(2,.d (.n .i64 a)),(3,.ptr 3 0),(4,.ptr 4 0),(9,.row 32),(38,.d (.sl (QaU ps))),(39,.d (.n .i64 (ps.length:Nat))),(40,.d (.n .i64 q)),(45,.d (.sl (ptE p))),(46,.d (.n .i64 (p.length:Nat))),(47,.d (.n .i64 k))],[(3,.box 212 (QgP r)),(4,.box 78 ((jobD j).map AV.d)),(32,.row 3 (intE (tnP a o (p.take k))) true)]⟩) (fun k=>k≤p.length) (fun k=>p.length - k) 0 (by exact Nat.zero_le _) ?_ ?_
  ·refine ⟨rfl,?_,?_,rfl⟩
   repeat'(first|apply And.intro|exact ze0|refine ze1 ?_|refine zei ?_ ?_|exact rfl|trivial)
   all_goals exact Stop.mk (by first|rfl|exact hpl3|rw [←hpe]|(rw [hpe];exact hpl3))
  intro k hk
  have htp:=Qm5 (a:=a) (p.take k) o
  rw [List.length_take] at htp
  by_cases hk':k<p.length
  ·have hst2:=Quw (a:=a) (out:=o) hk'
   generalize tnP a o (p.take k)=u at hst2 htp ⊢
   repeat' (first|refine zst ?_|(refine zhm fun hb=>?_;try exact zab)|refine zdr ?_|(apply zch;exact zcg)|refine HopS.mk fun w0 Z O=>?_|exact zhk|refine zg3 ?_ ?_|refine zln fun _=>?_|refine zop ?_|fail)
   ·rw [if_pos (by assumption)] at hst2
    refine ⟨k+1,by omega,by omega,?_⟩
    refine ⟨rfl,?_,?_,rfl⟩
    repeat'(first|apply And.intro|exact ze0|refine ze1 ?_|refine zei ?_ ?_|exact rfl|trivial)
    all_goals exact Stop.mk (by first|rfl|(rw [hst2];exact Qbg _ _))
   ·rw [if_neg (by assumption)] at hst2
    refine ⟨k+1,by omega,by omega,?_⟩
    refine ⟨rfl,?_,?_,rfl⟩
    repeat'(first|apply And.intro|exact ze0|refine ze1 ?_|refine zei ?_ ?_|exact rfl|trivial)
    all_goals exact Stop.mk (by first|rfl|rw [hst2])
  ·obtain rfl:k=p.length:=by omega
   rw [List.take_length] at *
   repeat' (first|refine zst ?_|(refine zhm fun hb=>?_;try exact zab)|refine zdr ?_|(apply zch;exact zcg)|refine HopS.mk fun w0 Z O=>?_|exact zhk|refine zg3 ?_ ?_|refine zln fun _=>?_|refine zop ?_|fail)
   refine ⟨q+1,by omega,by omega,?_⟩
   refine ⟨rfl,?_,?_,rfl⟩
   repeat'(first|apply And.intro|exact ze0|refine ze1 ?_|refine zei ?_ ?_|exact rfl|trivial)
   all_goals exact Stop.mk (by first|rfl|rw [hst])
 obtain rfl:q=ps.length:=by omega
 rw [List.take_length] at *
 have hsl:(tnL a ps).length≤1000000000:=by omega
 have hsl2:(srtI (tnL a ps)).length≤1000000000:=by rw [QbJ];exact hsl
 repeat' (first|refine zst ?_|(refine zhm fun hb=>?_;try exact zab)|refine zdr ?_|(apply zch;exact zcg)|refine HopS.mk fun w0 Z O=>?_|exact zhk|refine zg3 ?_ ?_|refine zln fun _=>?_|refine zop ?_|(refine km [32] (Qrg (d:=true) hsl) rfl rfl (fun i hi=>?_);(try dsimp only at hi))|(refine km [32] (Qmd hsl2) rfl rfl (fun i hi=>?_);(try dsimp only at hi))|fail)
 refine Qav 32 rfl ?_
 rw [htr]
 refine Qae (fun (k:Nat)=>⟨111,[(3,.ptr 3 0),(4,.ptr 4 0),(65,.d (.sl (intE ts))),(66,.d (.n .i64 (ts.length:Nat))),(67,.d (.n .i64 k))],[(3,.box 212 (QgP r)),(4,.box 78 ((jobD j).map AV.d))]⟩) (fun k=>k≤ts.length∧QfP r j (ts.drop k)=QfP r j ts) (fun k=>ts.length - k) 0 (by exact ⟨Nat.zero_le _,rfl⟩) ?_ ?_
 ·refine ⟨rfl,?_,?_,rfl⟩
  repeat'(first|apply And.intro|exact ze0|refine ze1 ?_|refine zei ?_ ?_|exact rfl|trivial)
  all_goals first|exact Stop.mk rfl|exact Stop.mk (by have e:=Qld (srtI (tnL a ps));rw [htr] at e;exact e)
 rintro k ⟨hk,hg⟩
 by_cases hk':k<ts.length
 ·have htm:=hti _ (QaO hk')
  have hge:=Qvo htris hk'
  rw [QiJ hk',QfP] at hg
  by_cases hw:nth ts k+j.wall≤1000000000
  ·have c3:=Qre (a:=nth ts k) (b:=nth ts k+j.wall) h.lics
   have c4:=Qml (a:=j.lic) (b:=Qdn r.lics (nth ts k) (nth ts k+j.wall))
   cases hf:Qem j.lic (Qdn r.lics (nth ts k) (nth ts k+j.wall)) with
   | false=>
    rw [hf] at c4
    rw [show canO r j (nth ts k)=none from if_neg (fun e=>by rw [hf] at e;cases e.2)] at hg
    dsimp only at hg
    repeat' (first|refine zst ?_|(refine zhm fun hb=>?_;try exact zab)|refine zdr ?_|(apply zch;exact zcg)|refine HopS.mk fun w0 Z O=>?_|exact zhk|refine zg3 ?_ ?_|refine zln fun _=>?_|refine zon ?_|refine kc (c3) rfl rfl ?_|refine kc (c4) rfl rfl ?_|refine kq (c3) rfl rfl ?_|refine kq (c4) rfl rfl ?_|fail)
    refine ⟨k+1,⟨by omega,hg⟩,by omega,?_⟩
    exact ⟨rfl,zae,zae,rfl⟩
   | true=>
    rw [hf] at c4
    rw [show canO r j (nth ts k)=QdB r.topo (QiF r j.need (nth ts k) (nth ts k+j.wall)) j.nodes j.level from if_pos ⟨hw,hf⟩] at hg
    have hel:=Ql9 (r:=r) (need:=j.need) (a:=nth ts k) (b:=nth ts k+j.wall)
    have c5:=Qpy (need:=j.need) (a:=nth ts k) (b:=nth ts k+j.wall) h
    have c6:=QsI (most:=j.level) h.topo (QkZ h (need:=j.need) (a:=nth ts k) (b:=nth ts k+j.wall)) j1.1 (by omega)
    cases hc:QdB r.topo (QiF r j.need (nth ts k) (nth ts k+j.wall)) j.nodes j.level with
    | none=>
     rw [hc] at hg c6
     dsimp only at hg
     repeat' (first|refine zst ?_|(refine zhm fun hb=>?_;try exact zab)|(apply QaT 20;kernel_rfl;exact rfl)|refine zdr ?_|(apply zch;exact zcg)|refine HopS.mk fun w0 Z O=>?_|exact zhk|refine zg3 ?_ ?_|refine zln fun _=>?_|refine zon ?_|refine kc (c3) rfl rfl ?_|refine kc (c4) rfl rfl ?_|(refine km [] (c5) rfl rfl (fun i hi=>?_);(try dsimp only at hi))|(refine km [] (c6) rfl rfl (fun i hi=>?_);(try dsimp only at hi))|refine kq (c3) rfl rfl ?_|refine kq (c4) rfl rfl ?_|fail)
     refine ⟨k+1,⟨by omega,hg⟩,by omega,?_⟩
     exact ⟨rfl,zae,zae,rfl⟩
    | some l=>
     rw [hc] at hg c6
     dsimp only at hg
     rw [←hg]
     repeat' (first|refine zsr ?_|(refine zhm fun hb=>?_;try exact zab)|(apply QaT 20;kernel_rfl;exact rfl)|refine zdr ?_|(apply zch;exact zcg)|refine HopS.mk fun w0 Z O=>?_|exact zhk|refine zg3 ?_ ?_|refine zln fun _=>?_|refine zon ?_|refine kc (c3) rfl rfl ?_|refine kc (c4) rfl rfl ?_|(refine km [] (c5) rfl rfl (fun i hi=>?_);(try dsimp only at hi))|(refine km [] (c6) rfl rfl (fun i hi=>?_);(try dsimp only at hi))|refine kq (c3) rfl rfl ?_|refine kq (c4) rfl rfl ?_|fail)
     show AWp _ _ _ _
     refine Qac ?_
     apply Qab
     exact zm () [104] trivial zae zae zae
  ·have hno:canO r j (nth ts k)=none:=if_neg (fun e=>hw e.1)
   rw [hno] at hg
   dsimp only at hg
   rw [Qjp (fun t ht=>if_neg (fun e=>by have:=hge t (by rw [QiJ hk'];exact List.mem_cons_of_mem _ ht);omega))] at hg
   rw [←hg]
   repeat' (first|refine zsr ?_|(refine zhm fun hb=>?_;try exact zab)|refine zdr ?_|(apply zch;exact zcg)|refine HopS.mk fun w0 Z O=>?_|exact zhk|refine zg3 ?_ ?_|refine zln fun _=>?_|refine zon ?_|fail)
   show AWp _ _ _ _
   refine Qac ?_
   apply Qab
   exact zm () [] trivial zae zae zae
 ·rw [List.drop_eq_nil_of_le (by omega),QfP] at hg
  rw [←hg]
  repeat' (first|refine zsr ?_|(refine zhm fun hb=>?_;try exact zab)|refine zdr ?_|(apply zch;exact zcg)|refine HopS.mk fun w0 Z O=>?_|exact zhk|refine zg3 ?_ ?_|refine zln fun _=>?_|refine zop ?_|fail)
  show AWp _ _ _ _
  refine Qac ?_
  apply Qab
  exact zm () [] trivial zae zae zae
theorem QoV {r:Room} {j:Job} {a:Int} (h:RoomOk r) (hj:Qau j=true) (ha:0≤a∧a≤1000000000):DC Tryz.prog 204 [QcC r,jobA j,.d (.n .i64 a)] (earA (earO r j a)):=by
 have:=dc_m (QjQ h hj ha)
 cases he:earO r j a <;> rw [he] at this <;> exact this
theorem Qjx {r:Room} {j:Job}:∀{ts:List Int} {x:Int×List Int},QfP r j ts=some x→x.1∈ts∧canO r j x.1=some x.2
 | [],x,h=>by cases h
 | t::ts,x,h=>by
  unfold QfP at h
  split at h
  ·rename_i l hl
   injection h with h
   subst h
   exact ⟨List.mem_cons_self,hl⟩
  ·obtain ⟨h1,h2⟩:=Qjx h
   exact ⟨List.mem_cons_of_mem _ h1,h2⟩
theorem QlR {r:Room} {j:Job} {a:Int} {x:Int×List Int} (h:RoomOk r) (hj:Qau j=true) (ha:0≤a∧a≤1000000000) (he:earO r j a=some x):(a≤x.1∧x.1≤1000000000)∧x.2.length≤24:=by
 obtain ⟨h1,h2⟩:=Qjx he
 refine ⟨Qm9 h ha _ h1,?_⟩
 unfold canO at h2
 split at h2
 ·obtain ⟨j1,_⟩:=Qcg hj
  have:=QpD h.topo (QkZ h) j1.1 h2
  omega
 ·cases h2
end Go.Proofs.YtelbahebpmkfjaaGreat
