/-
  Profiles: what is free least, a change, taking; both.
-/
import Derived.Test.YtelbahebpmkfjaaGreatKB7
import Derived.Test.YtelbahebpmkfjaaGreatKB11
set_option maxRecDepth 100000
set_option maxHeartbeats 16000000
namespace Go.Proofs.YtelbahebpmkfjaaGreat
open Go Go.RowKit
attribute [local irreducible] AWp Qat OpOk ACalls ChA QsOk MCalls EnC PY

def Qdn (l:List Pt) (a b:Int):V3:=l.foldl (fun v x=>if a≤x.at'∧x.at'<b then minO v x.free else v) (Qbo l a)
def QeA (l:List Pt) (a b:Int) (v0:V3):V3:=l.foldl (fun v x=>if a≤x.at'∧x.at'<b then minO v x.free else v) v0
theorem Qdt {l:List Pt} {i:Nat} (h:i<l.length) (a b:Int) (v0:V3):QeA (l.take (i+1)) a b v0=if a≤(nth l i).at'∧(nth l i).at'<b then minO (QeA (l.take i) a b v0) (nth l i).free else QeA (l.take i) a b v0:=by
 rw [Qas h,QeA,List.foldl_append]
 rfl
@[reducible] def minR (ok:Bool) (v:V3):List AV:=[vecA (bif ok then v else zV),.d (.b ok)]
theorem Qh0 {l:List Pt} {a b:Int} (hl:l.length≤1000000000):ACalls Tryz.prog 318 [Qfn l,.d (.n .i64 a),.d (.n .i64 b)] (minR (Qbr l&&QdT a b) (Qdn l a b)) []:=by
 refine Qaa tt Tryz.func318 rfl rfl rfl (fun w0 Z=>?_)
 have hpl:(ptE l).length=l.length:=QaR l
 cases hb0:(Qbr l&&QdT a b) with
 | false=>
  have hcs:=Qgo hl
  cases hp:Qbr l with
  | false=>
   rw [hp] at hcs
   repeat' (first|refine zst ?_|(refine zhm fun hb=>?_;try exact zab)|refine zg2 ?_ ?_|refine zln fun _=>?_|refine zop ?_|refine kc (hcs) rfl rfl ?_|fail)
   exact zr [] zae zae
  | true=>
   rw [hp] at hcs
   rw [hp,Bool.true_and] at hb0
   have hsp:¬((0≤a∧a≤1000000000)∧(0≤b∧b≤1000000000)∧a<b):=fun h=>by rw [QdC.2 h] at hb0;cases hb0
   repeat' (first|refine zst ?_|(refine zhm fun hb=>?_;try exact zab)|refine zg2 ?_ ?_|refine zln fun _=>?_|refine zop ?_|refine kc (hcs) rfl rfl ?_|refine kc (Qce (x:=a)) rfl rfl ?_|refine kc (Qce (x:=b)) rfl rfl ?_|fail)
   all_goals
    exact zr [] zae zae
 | true=>
  rw [Bool.and_eq_true] at hb0
  have hcs:=Qgo hl
  rw [hb0.1] at hcs
  obtain ⟨h1,h2,h3⟩:=QdC.1 hb0.2
  repeat' (first|refine zst ?_|(refine zhm fun hb=>?_;try exact zab)|refine zg2 ?_ ?_|refine zln fun _=>?_|refine zop ?_|refine kc (hcs) rfl rfl ?_|refine kc (Qce (x:=a)) rfl rfl ?_|refine kc (Qce (x:=b)) rfl rfl ?_|refine kc (QiN hl) rfl rfl ?_|fail)
  refine Qae (fun (i:Nat)=>⟨56,[(1,.d (.n .i64 a)),(2,.d (.n .i64 b)),(6,.ptr 6 0),(8,.ptr 8 0),(34,.d (.sl (ptE l))),(35,.d (.n .i64 (l.length:Nat))),(36,.d (.n .i64 i))],[(6,.box 38 (vecC zV)),(8,.box 38 (vecC (QeA (l.take i) a b (Qbo l a))))]⟩) (fun i=>i≤l.length) (fun i=>l.length - i) 0 (by exact Nat.zero_le _) ?_ ?_
  ·refine ⟨rfl,?_,?_,rfl⟩
   repeat'(first|apply And.intro|exact ze0|refine ze1 ?_|refine zei ?_ ?_|exact rfl|trivial)
   all_goals exact Stop.mk (by first|rfl|exact QaR _)
  ·intro i hi
   repeat' (first|refine zst ?_|(refine zhm fun hb=>?_;try exact zab)|refine zg2 ?_ ?_|refine zln fun _=>?_|refine zop ?_|refine kc (Quf (a:=QeA (l.take i) a b (Qbo l a)) (b:=(nth l i).free)) rfl rfl ?_|fail)
   ·refine ⟨i+1,by omega,by omega,?_⟩
    refine ⟨rfl,?_,?_,rfl⟩
    repeat'(first|apply And.intro|exact ze0|refine ze1 ?_|refine zei ?_ ?_|exact rfl|trivial)
    all_goals exact Stop.mk (by first|rfl|(rw [Qdt (by omega),if_pos ⟨by assumption,by assumption⟩]))
   ·refine ⟨i+1,by omega,by omega,?_⟩
    refine ⟨rfl,?_,?_,rfl⟩
    repeat'(first|apply And.intro|exact ze0|refine ze1 ?_|refine zei ?_ ?_|exact rfl|trivial)
    all_goals exact Stop.mk (by first|rfl|(rw [Qdt (by omega),if_neg (by omega)]))
   ·refine ⟨i+1,by omega,by omega,?_⟩
    refine ⟨rfl,?_,?_,rfl⟩
    repeat'(first|apply And.intro|exact ze0|refine ze1 ?_|refine zei ?_ ?_|exact rfl|trivial)
    all_goals exact Stop.mk (by first|rfl|(rw [Qdt (by omega),if_neg (by omega)]))
   ·rw [show Qdn l a b=QeA (l.take i) a b (Qbo l a) by rw [List.take_of_length_le (by omega)];rfl]
    exact zr [] zae zae
@[reducible] def resP (o:Option (List Pt)):List AV:=[Qfn (o.getD []),.d (.b o.isSome)]
theorem Qld (L:List Int):((intE (cmpZ L)).take (cmpL L).length).drop 0=intE (cmpL L):=by
 rw [List.drop_zero,QrO,cmpZ,List.take_left]
theorem Qn2 (l:List Pt) (p:Pt):ptE l++[[.n .i64 p.at',.n .i64 p.free.a,.n .i64 p.free.b,.n .i64 p.free.c]]=ptE (l++[p]):=by simp [ptE]
theorem QnP {l:List Pt} {i:Nat} (h:i<l.length) (xs:List Int):intE (xs++atsI (l.take i))++[[.n .i64 (nth l i).at']]=intE (xs++atsI (l.take (i+1))):=by
 rw [Qbg,Qas h]
 simp [atsI]
def pts0 (out:List Pt):AV:=match out with
 | []=>.nil
 | _::_=>.row 89
def ob0 (out:List Pt):List (Nat×AO):=match out with
 | []=>[]
 | _::_=>[(89,.row 273 (ptE out) true)]
theorem Qfi {l:List Pt} {a b:Int} {by':V3→Option V3} {ts:List Int} {i:Nat} {out:List Pt} (h:i<ts.length) (hv:chgV l a b by' (nth ts i)=none):QdR l a b by' (ts.drop i) out=none:=by
 rw [List.drop_eq_getElem_cons h,←Qa8 h,QdR,hv]
theorem Qfb {l:List Pt} {a b:Int} {by':V3→Option V3} {ts:List Int} {i:Nat} {out:List Pt} {v:V3} (h:i<ts.length) (hv:chgV l a b by' (nth ts i)=some v):QdR l a b by' (ts.drop i) out=QdR l a b by' (ts.drop (i+1)) (Qfy out (nth ts i) v):=by
 rw [List.drop_eq_getElem_cons h,←Qa8 h,QdR,hv]
theorem QeZ {l:List Pt} {a b:Int} {by':V3→Option V3} {t:Int} (h:a≤t∧t<b):chgV l a b by' t=by' (Qbo l t):=if_pos h
theorem QdL {l:List Pt} {a b:Int} {by':V3→Option V3} {t:Int} (h:¬(a≤t∧t<b)):chgV l a b by' t=some (Qbo l t):=if_neg h
theorem QhM {o:Option V3} (h:o.isSome=false):o=none:=by cases o with|none=>rfl|some v=>simp at h
theorem Qhs {o:Option V3} (h:o.isSome=true):o=some (o.getD zV):=by cases o with|none=>simp at h|some v=>rfl
theorem Qsr {l:List Pt} {a b:Int} {g:FuncId} {ds:List D} {by':V3→Option V3} (hp:ProfOk l) (hby:∀v,Qal v=true→ACalls Tryz.prog g [vecA v,.pd ds 0] (resV (by' v)) []) :
  DC Tryz.prog 303 [Qfn l,.d (.n .i64 a),.d (.n .i64 b),.clo g [.pd ds 0]] (resP (chgP l a b by')):=by
 refine Qag tt Tryz.func303 rfl rfl rfl trivial (fun _ _=>⟨trivial,trivial⟩) (fun w0 Z O=>?_)
 have hl:=hp.len
 have hpl:(ptE l).length=l.length:=QaR l
 repeat' (first|refine zst ?_|(refine zhm fun hb=>?_;try exact zab)|refine zdr ?_|(apply zch;exact zcg)|refine HopS.mk fun w0 Z O=>?_|exact zhk|refine zg3 ?_ ?_|refine zln fun _=>?_|refine zop ?_|fail)
 refine Qae (fun (i:Nat)=>⟨98,[(1,.d (.n .i64 a)),(2,.d (.n .i64 b)),(3,.clo g [.pd ds 0]),(4,.ptr 4 0),(8,.ptr 8 0),(10,.row 22),(24,.d (.sl (ptE l))),(25,.d (.n .i64 (l.length:Nat))),(26,.d (.n .i64 i))],[(4,.box 210 (Qkh l)),(8,.box 210 [.nil]),(22,.row 3 (intE ([a,b]++atsI (l.take i))) true)]⟩) (fun i=>i≤l.length) (fun i=>l.length - i) 0 (by exact Nat.zero_le _) ?_ ?_
 ·refine ⟨rfl,?_,?_,rfl⟩
  repeat'(first|apply And.intro|exact ze0|refine ze1 ?_|refine zei ?_ ?_|exact rfl|trivial)
  all_goals exact Stop.mk (by first|rfl|exact QaR _)
 ·intro i hi
  have hil0:([a,b]++atsI (l.take i)).length=i+2:=by simp [atsI];omega
  have hil:(intE ([a,b]++atsI (l.take i))).length=i+2:=by rw [Qad];exact hil0
  by_cases hi':i<l.length
  ·repeat' (first|refine zst ?_|(refine zhm fun hb=>?_;try exact zab)|refine zdr ?_|(apply zch;exact zcg)|refine HopS.mk fun w0 Z O=>?_|exact zhk|refine zg3 ?_ ?_|refine zln fun _=>?_|refine zop ?_|fail)
   ·refine ⟨i+1,by omega,by omega,?_⟩
    refine ⟨rfl,?_,?_,rfl⟩
    repeat'(first|apply And.intro|exact ze0|refine ze1 ?_|refine zei ?_ ?_|exact rfl|trivial)
    all_goals exact Stop.mk (by first|rfl|exact QnP hi' _)
  ·rw [show l.take i=l from List.take_of_length_le (by omega)]
   have hsl:([a,b]++atsI l).length≤1000000000:=by simp [atsI];omega
   have hsl2:(srtI ([a,b]++atsI l)).length≤1000000000:=by rw [QbJ];exact hsl
   repeat' (first|refine zst ?_|(refine zhm fun hb=>?_;try exact zab)|refine zdr ?_|(apply zch;exact zcg)|refine HopS.mk fun w0 Z O=>?_|exact zhk|refine zg3 ?_ ?_|refine zln fun _=>?_|refine zop ?_|(refine km [22] (Qrg (d:=true) hsl) rfl rfl (fun i hi=>?_);(try dsimp only at hi))|(refine km [22] (Qmd hsl2) rfl rfl (fun i hi=>?_);(try dsimp only at hi))|fail)
   refine Qav 22 rfl ?_
   have hts:Qbb l a b=QaI l a b:=QtT hp a b
   have htl:(Qbb l a b).length≤202:=by
    refine Nat.le_trans (QrG _) ?_
    rw [QbJ];simp [atsI];omega
   refine Qae (fun (k:Nat×List Pt)=>⟨98,[(1,.d (.n .i64 a)),(2,.d (.n .i64 b)),(3,.clo g [.pd ds 0]),(4,.ptr 4 0),(8,.ptr 8 0),(13,.ptr 13 0),(40,.d (.sl (intE (Qbb l a b)))),(41,.d (.n .i64 ((Qbb l a b).length:Nat))),(42,.d (.n .i64 k.1))],[(4,.box 210 (Qkh l)),(8,.box 210 [.nil]),(13,.box 210 [pts0 k.2])]++ob0 k.2⟩)
    (fun k=>k.1≤(Qbb l a b).length∧k.2.length≤k.1∧QdR l a b by' ((Qbb l a b).drop k.1) k.2=QdR l a b by' (Qbb l a b) []) (fun k=>(Qbb l a b).length - k.1) (0,[]) (by exact ⟨Nat.zero_le _,Nat.le_refl _,rfl⟩) ?_ ?_
   ·refine ⟨rfl,?_,?_,rfl⟩
    repeat'(first|apply And.intro|exact ze0|refine ze1 ?_|refine zei ?_ ?_|exact rfl|trivial)
    all_goals first|exact Stop.mk rfl|exact Stop.mk (Qld _)|skip
   ·rintro ⟨n,out⟩ ⟨hn,ho,hc⟩
    dsimp only at hn ho hc ⊢
    have htz:(intE (Qbb l a b)).length=(Qbb l a b).length:=Qad _
    have hop:(ptE out).length=out.length:=QaR out
    by_cases hn':n<(Qbb l a b).length
    ·cases out with
     | nil=>
      repeat' (first|(refine QhL 56 (fun v:V3=>⟨98,[(1,.d (.n .i64 a)),(2,.d (.n .i64 b)),(3,.clo g [.pd ds 0]),(4,.ptr 4 0),(8,.ptr 8 0),(13,.ptr 13 0),(15,.d (.n .i64 (nth (Qbb l a b) n))),(16,.ptr 16 0),(40,.d (.sl (intE (Qbb l a b)))),(41,.d (.n .i64 ((Qbb l a b).length:Nat))),(42,.d (.n .i64 n))],[(4,.box 210 (Qkh l)),(8,.box 210 [.nil]),(13,.box 210 [pts0 ([])]),(16,.box 38 (vecC v))]++ob0 ([])⟩) (fun v=>chgV l a b by' (nth (Qbb l a b) n)=some v) ?_ ?_)|refine zsr ?_|(refine zhm fun hb=>?_;try exact zab)|refine zdr ?_|(apply zch;exact zcg)|refine HopS.mk fun w0 Z O=>?_|exact zhk|refine zg3 ?_ ?_|refine zln fun _=>?_|refine zop ?_|refine kc (Qmg (l:=l) (by omega)) rfl rfl ?_|refine kv (hby _ (Qe8 hp (nth (Qbb l a b) n))) rfl rfl rfl rfl rfl ?_|refine kq (Qmg (l:=l) (by omega)) rfl rfl ?_|fail)
      ·rw [show chgP l a b by'=none by rw [chgP,←hts,←hc,Qfi hn' (by rw [QeZ ⟨by assumption,by assumption⟩];exact QhM (by assumption))];rfl]
       show AWp _ _ _ _
       refine Qac ?_
       apply Qab
       exact zm () [] trivial zae zae zae
      ·refine ⟨(by' (Qbo l (nth (Qbb l a b) n))).getD zV,by rw [QeZ ⟨by assumption,by assumption⟩];exact Qhs (by assumption),?_⟩
       exact ⟨rfl,zae,zae,rfl⟩
      ·refine ⟨Qbo l (nth (Qbb l a b) n),QdL (by omega),?_⟩
       exact ⟨rfl,zae,zae,rfl⟩
      ·refine ⟨Qbo l (nth (Qbb l a b) n),QdL (by omega),?_⟩
       exact ⟨rfl,zae,zae,rfl⟩
      intro v hv
      rw [Qfb hn' hv] at hc
      repeat' (first|refine zst ?_|(refine zhm fun hb=>?_;try exact zab)|refine zdr ?_|(apply zch;exact zcg)|refine HopS.mk fun w0 Z O=>?_|exact zhk|refine zg3 ?_ ?_|refine zln fun _=>?_|refine zop ?_|fail)
      refine ⟨(n+1,Qfy [] (nth (Qbb l a b) n) v),⟨by omega,by dsimp only;exact Nat.le_trans (QeW _ _ _) (Nat.succ_le_succ ho),hc⟩,by omega,?_⟩
      exact ⟨rfl,zae,zae,rfl⟩
     | cons p0 o0=>
      have hpos:0<(p0::o0).length:=Nat.succ_pos _
      repeat' (first|(refine QhL 56 (fun v:V3=>⟨98,[(1,.d (.n .i64 a)),(2,.d (.n .i64 b)),(3,.clo g [.pd ds 0]),(4,.ptr 4 0),(8,.ptr 8 0),(13,.ptr 13 0),(15,.d (.n .i64 (nth (Qbb l a b) n))),(16,.ptr 16 0),(40,.d (.sl (intE (Qbb l a b)))),(41,.d (.n .i64 ((Qbb l a b).length:Nat))),(42,.d (.n .i64 n))],[(4,.box 210 (Qkh l)),(8,.box 210 [.nil]),(13,.box 210 [pts0 (p0::o0)]),(16,.box 38 (vecC v))]++ob0 (p0::o0)⟩) (fun v=>chgV l a b by' (nth (Qbb l a b) n)=some v) ?_ ?_)|refine zsr ?_|(refine zhm fun hb=>?_;try exact zab)|refine zdr ?_|(apply zch;exact zcg)|refine HopS.mk fun w0 Z O=>?_|exact zhk|refine zg3 ?_ ?_|refine zln fun _=>?_|refine zop ?_|refine kc (Qmg (l:=l) (by omega)) rfl rfl ?_|refine kv (hby _ (Qe8 hp (nth (Qbb l a b) n))) rfl rfl rfl rfl rfl ?_|refine kq (Qmg (l:=l) (by omega)) rfl rfl ?_|fail)
      ·rw [show chgP l a b by'=none by rw [chgP,←hts,←hc,Qfi hn' (by rw [QeZ ⟨by assumption,by assumption⟩];exact QhM (by assumption))];rfl]
       show AWp _ _ _ _
       refine Qac ?_
       apply Qab
       exact zm () [] trivial zae zae zae
      ·refine ⟨(by' (Qbo l (nth (Qbb l a b) n))).getD zV,by rw [QeZ ⟨by assumption,by assumption⟩];exact Qhs (by assumption),?_⟩
       exact ⟨rfl,zae,zae,rfl⟩
      ·refine ⟨Qbo l (nth (Qbb l a b) n),QdL (by omega),?_⟩
       exact ⟨rfl,zae,zae,rfl⟩
      ·refine ⟨Qbo l (nth (Qbb l a b) n),QdL (by omega),?_⟩
       exact ⟨rfl,zae,zae,rfl⟩
      intro v hv
      rw [Qfb hn' hv] at hc
      repeat' (first|refine zst ?_|(refine zhm fun hb=>?_;try exact zab)|refine zdr ?_|(apply zch;exact zcg)|refine HopS.mk fun w0 Z O=>?_|exact zhk|refine zg3 ?_ ?_|refine zln fun _=>?_|refine zop ?_|fail)
      ·have hne:(nth (p0::o0) ((p0::o0).length - 1)).free≠v:=Qtm.1 (by assumption)
       have hpu:Qfy (p0::o0) (nth (Qbb l a b) n) v=(p0::o0)++[⟨nth (Qbb l a b) n,v⟩]:=if_pos (.inr hne)
       rw [hpu] at hc
       refine ⟨(n+1,(p0::o0)++[⟨nth (Qbb l a b) n,v⟩]),⟨by omega,by dsimp only;rw [List.length_append];exact Nat.succ_le_succ ho,hc⟩,by omega,?_⟩
       refine ⟨rfl,?_,?_,rfl⟩
       repeat'(first|apply And.intro|exact ze0|refine ze1 ?_|refine zei ?_ ?_|exact rfl|trivial)
       all_goals exact Stop.mk (by first|rfl|exact Qn2 (p0::o0) ⟨nth (Qbb l a b) n,v⟩)
      ·have hpu:Qfy (p0::o0) (nth (Qbb l a b) n) v=p0::o0:=if_neg (not_or.2 ⟨by simp,fun h=>h (Qt7.1 (by assumption))⟩)
       rw [hpu] at hc
       refine ⟨(n+1,p0::o0),⟨by omega,Nat.le_succ_of_le ho,hc⟩,by omega,?_⟩
       exact ⟨rfl,zae,zae,rfl⟩
    ·rw [List.drop_eq_nil_of_le (by omega)] at hc
     have hcp:chgP l a b by'=if out.length≤200 then some out else none:=by rw [chgP,←hts,←hc];rfl
     rw [hcp]
     cases out with
     | nil=>
      repeat' (first|refine zsr ?_|(refine zhm fun hb=>?_;try exact zab)|refine zdr ?_|(apply zch;exact zcg)|refine HopS.mk fun w0 Z O=>?_|exact zhk|refine zg3 ?_ ?_|refine zln fun _=>?_|refine zop ?_|fail)
      show AWp _ _ _ _
      refine Qac ?_
      apply Qab
      exact zm () [] trivial zae zae zae
     | cons p0 o0=>
      by_cases h2:(p0::o0).length≤200
      ·rw [if_pos h2]
       repeat' (first|refine zsr ?_|(refine zhm fun hb=>?_;try exact zab)|refine zdr ?_|(apply zch;exact zcg)|refine HopS.mk fun w0 Z O=>?_|exact zhk|refine zg3 ?_ ?_|refine zln fun _=>?_|refine zop ?_|fail)
       show AWp _ _ _ _
       refine Qav 89 rfl ?_
       refine Qac ?_
       apply Qab
       exact zm () [] trivial zae zae zae
      ·rw [if_neg h2]
       repeat' (first|refine zsr ?_|(refine zhm fun hb=>?_;try exact zab)|refine zdr ?_|(apply zch;exact zcg)|refine HopS.mk fun w0 Z O=>?_|exact zhk|refine zg3 ?_ ?_|refine zln fun _=>?_|refine zop ?_|fail)
       show AWp _ _ _ _
       refine Qac ?_
       apply Qab
       exact zm () [] trivial zae zae zae
theorem Qsq {v x:V3} (hv:Qal v=true) (hx:Qal x=true):ACalls Tryz.prog 304 [vecA x,.pd [.n .i64 v.a,.n .i64 v.b,.n .i64 v.c] 0] (resV (subO x v)) []:=by
 refine Qaa tt Tryz.func304 rfl rfl rfl (fun w0 Z=>?_)
 repeat' (first|refine zst ?_|(refine zhm fun hb=>?_;try exact zab)|refine zg2 ?_ ?_|refine zop ?_|refine kc (Qux hx hv) rfl rfl ?_|fail)
 exact zr [] zae zae
end Go.Proofs.YtelbahebpmkfjaaGreat
namespace Go.Proofs.YtelbahebpmkfjaaGreat
open Go Go.RowKit
attribute [local irreducible] AWp Qat OpOk ACalls ChA QsOk MCalls EnC PY

def outK (l:List Pt) (a b:Int):Nat→List Int
 | 0=>atsI l
 | 1=>insI a false (atsI l)
 | _+2=>QaI l a b
theorem QxM {l:List Pt} {a b:Int} {k:Nat} (h:k<2):outK l a b (k+1)=insI (nth [a,b] k) false (outK l a b k):=by
 match k,h with
 | 0,_=>rfl
 | 1,_=>rfl
theorem QuH (l:List Pt) (a b:Int) (k:Nat):(outK l a b k).length≤l.length+2:=by
 have h3:(atsI l).length=l.length:=by simp [atsI]
 match k with
 | 0=>show (atsI l).length≤_;omega
 | 1=>have:=(Qhz (t:=a) (l:=atsI l)).1;show (insI a false (atsI l)).length≤_;omega
 | _+2=>exact Qiu
structure InsP (t:Int) (L:List Int) (i:Nat) (dn:Bool) (pre:List Int):Prop where
 le:i≤L.length
 len:pre.length≤i+1
 len2:dn=false→pre.length≤i
 eq:pre++insI t dn (L.drop i)=insI t false L
theorem Qtl {t:Int} {L:List Int} {i:Nat} {dn:Bool} {pre:List Int} (h:InsP t L i dn pre) (hi:i<L.length) :
  InsP t L (i+1) (dn||decide (t≤nth L i)) (pre++((if dn=false∧t≤nth L i then [t] else [])++(if nth L i≠t then [nth L i] else []))):=by
 refine ⟨by omega,?_,?_,?_⟩
 ·have h1:=h.len
  have h2:=h.len2
  rw [List.length_append,List.length_append]
  by_cases a:dn=false∧t≤nth L i
  ·have:=h2 a.1
   rw [if_pos a]
   split <;> simp only [List.length_cons,List.length_nil] <;> omega
  ·rw [if_neg a]
   split <;> simp only [List.length_cons,List.length_nil] <;> omega
 ·intro hd
  have h2:=h.len2
  simp only [Bool.or_eq_false_iff,decide_eq_false_iff_not] at hd
  have:=h2 hd.1
  rw [List.length_append,List.length_append,if_neg (fun a=>hd.2 a.2)]
  split <;> simp only [List.length_cons,List.length_nil] <;> omega
 ·rw [←h.eq,QdI hi]
  simp only [insI,List.append_assoc]
theorem Qvr {t:Int} {L:List Int} {i:Nat} {dn:Bool} {pre:List Int} (h:InsP t L i dn pre) (hi:¬i<L.length):insI t false L=pre++(if dn=true then [] else [t]):=by
 rw [←h.eq,List.drop_eq_nil_of_le (by omega)]
 cases dn <;> rfl
theorem Qpb {l:List Pt} {a b:Int} (hl:l.length≤1000000):DC Tryz.prog 341 [Qfn l,.d (.n .i64 a),.d (.n .i64 b)] [.d (.sl (intE (QaI l a b)))]:=by
 refine Qag tt Tryz.func341 rfl rfl rfl trivial (fun _ _=>⟨trivial,trivial⟩) (fun w0 Z O=>?_)
 have hpl:(ptE l).length=l.length:=QaR l
 repeat' (first|refine zst ?_|(refine zhm fun hb=>?_;try exact zab)|refine zg2 ?_ ?_|refine zln fun _=>?_|refine zop ?_|fail)
 refine Qae (fun (i:Nat)=>⟨73,[(1,.d (.n .i64 a)),(2,.d (.n .i64 b)),(7,.row 16),(18,.d (.sl (ptE l))),(19,.d (.n .i64 (l.length:Nat))),(20,.d (.n .i64 i))],[(16,.row 3 (intE (atsI (l.take i))) true)]⟩) (fun i=>i≤l.length) (fun i=>l.length - i) 0 (by exact Nat.zero_le _) ?_ ?_
 ·refine ⟨rfl,?_,?_,rfl⟩
  repeat'(first|apply And.intro|exact ze0|refine ze1 ?_|refine zei ?_ ?_|exact rfl|trivial)
  all_goals exact Stop.mk (by first|rfl|exact QaR _)
 ·intro i hi
  have hil0:(atsI (l.take i)).length=i:=by simp [atsI];omega
  have hil:(intE (atsI (l.take i))).length=i:=by rw [Qad];exact hil0
  by_cases hi':i<l.length
  ·repeat' (first|refine zst ?_|(refine zhm fun hb=>?_;try exact zab)|refine zg2 ?_ ?_|refine zln fun _=>?_|refine zop ?_|fail)
   ·refine ⟨i+1,by omega,by omega,?_⟩
    refine ⟨rfl,?_,?_,rfl⟩
    repeat'(first|apply And.intro|exact ze0|refine ze1 ?_|refine zei ?_ ?_|exact rfl|trivial)
    all_goals exact Stop.mk (by first|rfl|exact QnP (xs:=[]) hi')
  ·rw [show l.take i=l from List.take_of_length_le (by omega)]
   repeat' (first|refine zst ?_|(refine zhm fun hb=>?_;try exact zab)|refine zg2 ?_ ?_|refine zln fun _=>?_|refine zop ?_|fail)
   refine Qav 16 rfl ?_
   refine Qae (fun (k:Nat)=>⟨73,[(7,.d (.sl (intE (outK l a b k)))),(32,.row 32),(33,.d (.n .i64 2)),(34,.d (.n .i64 k))],[(32,.row 3 (intE [a,b]) true)]⟩) (fun k=>k≤2) (fun k=>2 - k) 0 (by exact Nat.zero_le _) ?_ ?_
   ·exact ⟨rfl,zae,zae,rfl⟩
   ·intro k hk
    have hol:=QuH l a b k
    have hel:(intE [a,b]).length=2:=rfl
    have hel2:([a,b]:List Int).length=2:=rfl
    by_cases hk':k<2
    ·repeat' (first|refine zst ?_|(refine zhm fun hb=>?_;try exact zab)|refine zg2 ?_ ?_|refine zln fun _=>?_|refine zop ?_|fail)
     refine Qae (fun (x:Nat×Bool×List Int)=>⟨73,[(11,.d (.n .i64 (nth [a,b] k))),(12,.row 38),(13,.d (.b x.2.1)),(32,.row 32),(33,.d (.n .i64 2)),(34,.d (.n .i64 k)),(39,.d (.sl (intE (outK l a b k)))),(40,.d (.n .i64 ((outK l a b k).length:Nat))),(41,.d (.n .i64 x.1))],[(32,.row 3 (intE [a,b]) true),(38,.row 3 (intE x.2.2) true)]⟩) (fun x=>InsP (nth [a,b] k) (outK l a b k) x.1 x.2.1 x.2.2) (fun x=>(outK l a b k).length - x.1) (0,false,[]) (by exact ⟨Nat.zero_le _,Nat.zero_le _,fun _=>Nat.zero_le _,rfl⟩) ?_ ?_
     ·refine ⟨rfl,?_,?_,rfl⟩
      repeat'(first|apply And.intro|exact ze0|refine ze1 ?_|refine zei ?_ ?_|exact rfl|trivial)
      all_goals exact Stop.mk (by first|rfl|exact Qad _)
     ·rintro ⟨i,dn,pre⟩ h
      dsimp only at h ⊢
      have hil2:(intE (outK l a b k)).length=(outK l a b k).length:=Qad _
      have hpl2:(intE pre).length=pre.length:=Qad _
      have hle:=h.len
      have hle2:=h.le
      by_cases hi:i<(outK l a b k).length
      ·have hst:=Qtl h hi
       cases dn with
       | false=>
        have hpl3:(intE pre++[[D.n .i64 (nth [a,b] k)]]).length=pre.length+1:=by simp [intE]
        repeat' (first|refine zst ?_|(refine zhm fun hb=>?_;try exact zab)|refine zg2 ?_ ?_|refine zln fun _=>?_|refine zop ?_|fail)
        ·have e1:nth [a,b] k≤nth (outK l a b k) i:=by assumption
         have e2:nth (outK l a b k) i≠nth [a,b] k:=by assumption
         rw [if_pos ⟨rfl,e1⟩,if_pos e2,decide_eq_true e1] at hst
         refine ⟨(i+1,_,_),hst,by dsimp only;omega,?_⟩
         refine ⟨rfl,?_,?_,rfl⟩
         repeat'(first|apply And.intro|exact ze0|refine ze1 ?_|refine zei ?_ ?_|exact rfl|trivial)
         all_goals exact Stop.mk (by first|rfl|(rw [decide_eq_true e1];rfl)|simp [intE])
        ·have e1:nth [a,b] k≤nth (outK l a b k) i:=by assumption
         have e2:nth (outK l a b k) i=nth [a,b] k:=by assumption
         rw [if_pos ⟨rfl,e1⟩,if_neg (not_not_intro e2),decide_eq_true e1] at hst
         refine ⟨(i+1,_,_),hst,by dsimp only;omega,?_⟩
         refine ⟨rfl,?_,?_,rfl⟩
         repeat'(first|apply And.intro|exact ze0|refine ze1 ?_|refine zei ?_ ?_|exact rfl|trivial)
         all_goals exact Stop.mk (by first|rfl|(rw [decide_eq_true e1];rfl)|simp [intE])
        ·have e1:¬nth [a,b] k≤nth (outK l a b k) i:=by assumption
         have e2:nth (outK l a b k) i≠nth [a,b] k:=by assumption
         rw [if_neg (fun h=>e1 h.2),if_pos e2,decide_eq_false e1] at hst
         refine ⟨(i+1,_,_),hst,by dsimp only;omega,?_⟩
         refine ⟨rfl,?_,?_,rfl⟩
         repeat'(first|apply And.intro|exact ze0|refine ze1 ?_|refine zei ?_ ?_|exact rfl|trivial)
         all_goals exact Stop.mk (by first|rfl|(rw [decide_eq_false e1];rfl)|simp [intE])
       | true=>
        repeat' (first|refine zst ?_|(refine zhm fun hb=>?_;try exact zab)|refine zg2 ?_ ?_|refine zln fun _=>?_|refine zop ?_|fail)
        ·have e2:nth (outK l a b k) i≠nth [a,b] k:=by assumption
         rw [if_neg (fun h=>by cases h.1),if_pos e2] at hst
         refine ⟨(i+1,_,_),hst,by dsimp only;omega,?_⟩
         refine ⟨rfl,?_,?_,rfl⟩
         repeat'(first|apply And.intro|exact ze0|refine ze1 ?_|refine zei ?_ ?_|exact rfl|trivial)
         all_goals exact Stop.mk (by first|rfl|simp [intE])
        ·have e2:nth (outK l a b k) i=nth [a,b] k:=by assumption
         rw [if_neg (fun h=>by cases h.1),if_neg (not_not_intro e2)] at hst
         refine ⟨(i+1,_,_),hst,by dsimp only;omega,?_⟩
         refine ⟨rfl,?_,?_,rfl⟩
         repeat'(first|apply And.intro|exact ze0|refine ze1 ?_|refine zei ?_ ?_|exact rfl|trivial)
         all_goals exact Stop.mk (by first|rfl|simp [intE])
      ·have hend:=Qvr h hi
       rw [←QxM hk'] at hend
       cases dn with
       | false=>
        repeat' (first|(refine Qaj 24 38 rfl ?_)|refine zst ?_|(refine zhm fun hb=>?_;try exact zab)|refine zg2 ?_ ?_|refine zln fun _=>?_|refine zop ?_|fail)
        refine ⟨k+1,by omega,by omega,?_⟩
        refine ⟨rfl,?_,?_,rfl⟩
        repeat'(first|apply And.intro|exact ze0|refine ze1 ?_|refine zei ?_ ?_|exact rfl|trivial)
        all_goals exact Stop.mk (by first|rfl|(rw [hend];exact Qbg _ _))
       | true=>
        repeat' (first|(refine Qaj 24 38 rfl ?_)|refine zst ?_|(refine zhm fun hb=>?_;try exact zab)|refine zg2 ?_ ?_|refine zln fun _=>?_|refine zop ?_|fail)
        refine ⟨k+1,by omega,by omega,?_⟩
        refine ⟨rfl,?_,?_,rfl⟩
        repeat'(first|apply And.intro|exact ze0|refine ze1 ?_|refine zei ?_ ?_|exact rfl|trivial)
        all_goals exact Stop.mk (by first|rfl|(rw [hend];simp))
    ·obtain rfl:k=2:=by omega
     repeat' (first|refine zsr ?_|(refine zhm fun hb=>?_;try exact zab)|refine zg2 ?_ ?_|refine zln fun _=>?_|refine zop ?_|fail)
     show AWp _ _ _ _
     refine Qac ?_
     apply Qab
     exact zm () [] trivial zae zae zae
end Go.Proofs.YtelbahebpmkfjaaGreat
namespace Go.Proofs.YtelbahebpmkfjaaGreat
open Go Go.RowKit
attribute [local irreducible] AWp Qat OpOk ACalls ChA QsOk MCalls EnC PY

def ptsN (n:Nat) (out:List Pt):AV:=match out with
 | []=>.nil
 | _::_=>.row n
def obN (n:Nat) (out:List Pt):List (Nat×AO):=match out with
 | []=>[]
 | _::_=>[(n,.row 273 (ptE out) true)]
theorem Qm7 {l:List Pt} {a b:Int} {v:V3} (hp:ProfOk l) (hs:QdT a b=true):DC Tryz.prog 319 [Qfn l,.d (.n .i64 a),.d (.n .i64 b),vecA v,.d (.b false)] (resP (chgP l a b (fun x=>subO x v))):=by
 refine Qag tt Tryz.func319 rfl rfl rfl trivial (fun _ _=>⟨trivial,trivial⟩) (fun w0 Z O=>?_)
 have hl:=hp.len
 have hpl:(ptE l).length=l.length:=QaR l
 have htl:(QaI l a b).length≤202:=by have:=Qiu (l:=l) (a:=a) (b:=b);omega
 repeat' (first|refine zst ?_|(refine zhm fun hb=>?_;try exact zab)|refine zdr ?_|(apply zch;exact zcg)|refine HopS.mk fun w0 Z O=>?_|exact zhk|refine zg3 ?_ ?_|refine zln fun _=>?_|refine zop ?_|(refine km [] (Qpb (l:=l) (a:=a) (b:=b) (by omega)) rfl rfl (fun i hi=>?_);(try dsimp only at hi))|fail)
 refine Qae (fun (k:Nat×List Pt)=>⟨85,[(1,.d (.n .i64 a)),(2,.d (.n .i64 b)),(4,.d (.b false)),(5,.ptr 5 0),(8,.ptr 8 0),(10,.ptr 10 0),(12,.ptr 12 0),(22,.d (.sl (intE (QaI l a b)))),(23,.d (.n .i64 ((QaI l a b).length:Nat))),(24,.d (.n .i64 k.1))],[(5,.box 210 (Qkh l)),(8,.box 38 (vecC v)),(10,.box 210 [.nil]),(12,.box 210 [ptsN 77 k.2])]++obN 77 k.2⟩)
  (fun k=>k.1≤(QaI l a b).length∧k.2.length≤k.1∧QdR l a b (fun x=>subO x v) ((QaI l a b).drop k.1) k.2=QdR l a b (fun x=>subO x v) (QaI l a b) []) (fun k=>(QaI l a b).length - k.1) (0,[]) (by exact ⟨Nat.zero_le _,Nat.le_refl _,rfl⟩) ?_ ?_
 ·refine ⟨rfl,?_,?_,rfl⟩
  repeat'(first|apply And.intro|exact ze0|refine ze1 ?_|refine zei ?_ ?_|exact rfl|trivial)
  all_goals exact Stop.mk (by first|rfl|exact Qad _)
 ·rintro ⟨n,out⟩ ⟨hn,ho,hc⟩
  dsimp only at hn ho hc ⊢
  have htz:(intE (QaI l a b)).length=(QaI l a b).length:=Qad _
  have hop:(ptE out).length=out.length:=QaR out
  by_cases hn':n<(QaI l a b).length
  ·cases out with
   | nil=>
    repeat' (first|(refine QhL 38 (fun u:V3=>⟨85,[(1,.d (.n .i64 a)),(2,.d (.n .i64 b)),(4,.d (.b false)),(5,.ptr 5 0),(8,.ptr 8 0),(10,.ptr 10 0),(12,.ptr 12 0),(14,.d (.n .i64 (nth (QaI l a b) n))),(15,.ptr 15 0),(22,.d (.sl (intE (QaI l a b)))),(23,.d (.n .i64 ((QaI l a b).length:Nat))),(24,.d (.n .i64 n))],[(5,.box 210 (Qkh l)),(8,.box 38 (vecC v)),(10,.box 210 [.nil]),(12,.box 210 [ptsN 77 ([])]),(15,.box 38 (vecC u))]++obN 77 ([])⟩) (fun u=>chgV l a b (fun x=>subO x v) (nth (QaI l a b) n)=some u) ?_ ?_)|refine zsr ?_|(refine zhm fun hb=>?_;try exact zab)|refine zdr ?_|(apply zch;exact zcg)|refine HopS.mk fun w0 Z O=>?_|exact zhk|refine zg3 ?_ ?_|refine zln fun _=>?_|refine zop ?_|refine kc (QiN (l:=l) (by omega)) rfl rfl ?_|refine kc (QhN (a:=Qbo l (nth (QaI l a b) n)) (b:=v)) rfl rfl ?_|refine kq (QiN (l:=l) (by omega)) rfl rfl ?_|refine kq (QhN (a:=Qbo l (nth (QaI l a b) n)) (b:=v)) rfl rfl ?_|fail)
    ·rw [show chgP l a b (fun x=>subO x v)=none by rw [chgP,←hc,Qfi hn' (by rw [QeZ ⟨by assumption,by assumption⟩];exact QhM (by assumption))];rfl]
     show AWp _ _ _ _
     refine Qac ?_
     apply Qab
     exact zm () [] trivial zae zae zae
    ·refine ⟨(subO (Qbo l (nth (QaI l a b) n)) v).getD zV,by rw [QeZ ⟨by assumption,by assumption⟩];exact Qhs (by assumption),?_⟩
     exact ⟨rfl,zae,zae,rfl⟩
    ·refine ⟨Qbo l (nth (QaI l a b) n),QdL (by omega),?_⟩
     exact ⟨rfl,zae,zae,rfl⟩
    ·refine ⟨Qbo l (nth (QaI l a b) n),QdL (by omega),?_⟩
     exact ⟨rfl,zae,zae,rfl⟩
    intro u hv
    rw [Qfb hn' hv] at hc
    repeat' (first|refine zst ?_|(refine zhm fun hb=>?_;try exact zab)|refine zdr ?_|(apply zch;exact zcg)|refine HopS.mk fun w0 Z O=>?_|exact zhk|refine zg3 ?_ ?_|refine zln fun _=>?_|refine zop ?_|fail)
    refine ⟨(n+1,Qfy [] (nth (QaI l a b) n) u),⟨by omega,by dsimp only;exact Nat.le_trans (QeW _ _ _) (Nat.succ_le_succ ho),hc⟩,by omega,?_⟩
    exact ⟨rfl,zae,zae,rfl⟩
   | cons p0 o0=>
    have hpos:0<(p0::o0).length:=Nat.succ_pos _
    repeat' (first|(refine QhL 38 (fun u:V3=>⟨85,[(1,.d (.n .i64 a)),(2,.d (.n .i64 b)),(4,.d (.b false)),(5,.ptr 5 0),(8,.ptr 8 0),(10,.ptr 10 0),(12,.ptr 12 0),(14,.d (.n .i64 (nth (QaI l a b) n))),(15,.ptr 15 0),(22,.d (.sl (intE (QaI l a b)))),(23,.d (.n .i64 ((QaI l a b).length:Nat))),(24,.d (.n .i64 n))],[(5,.box 210 (Qkh l)),(8,.box 38 (vecC v)),(10,.box 210 [.nil]),(12,.box 210 [ptsN 77 (p0::o0)]),(15,.box 38 (vecC u))]++obN 77 (p0::o0)⟩) (fun u=>chgV l a b (fun x=>subO x v) (nth (QaI l a b) n)=some u) ?_ ?_)|refine zsr ?_|(refine zhm fun hb=>?_;try exact zab)|refine zdr ?_|(apply zch;exact zcg)|refine HopS.mk fun w0 Z O=>?_|exact zhk|refine zg3 ?_ ?_|refine zln fun _=>?_|refine zop ?_|refine kc (QiN (l:=l) (by omega)) rfl rfl ?_|refine kc (QhN (a:=Qbo l (nth (QaI l a b) n)) (b:=v)) rfl rfl ?_|refine kq (QiN (l:=l) (by omega)) rfl rfl ?_|refine kq (QhN (a:=Qbo l (nth (QaI l a b) n)) (b:=v)) rfl rfl ?_|fail)
    ·rw [show chgP l a b (fun x=>subO x v)=none by rw [chgP,←hc,Qfi hn' (by rw [QeZ ⟨by assumption,by assumption⟩];exact QhM (by assumption))];rfl]
     show AWp _ _ _ _
     refine Qac ?_
     apply Qab
     exact zm () [] trivial zae zae zae
    ·refine ⟨(subO (Qbo l (nth (QaI l a b) n)) v).getD zV,by rw [QeZ ⟨by assumption,by assumption⟩];exact Qhs (by assumption),?_⟩
     exact ⟨rfl,zae,zae,rfl⟩
    ·refine ⟨Qbo l (nth (QaI l a b) n),QdL (by omega),?_⟩
     exact ⟨rfl,zae,zae,rfl⟩
    ·refine ⟨Qbo l (nth (QaI l a b) n),QdL (by omega),?_⟩
     exact ⟨rfl,zae,zae,rfl⟩
    intro u hv
    rw [Qfb hn' hv] at hc
    repeat' (first|refine zst ?_|(refine zhm fun hb=>?_;try exact zab)|refine zdr ?_|(apply zch;exact zcg)|refine HopS.mk fun w0 Z O=>?_|exact zhk|refine zg3 ?_ ?_|refine zln fun _=>?_|refine zop ?_|fail)
    ·have hne:(nth (p0::o0) ((p0::o0).length - 1)).free≠u:=Qtm.1 (by assumption)
     have hpu:Qfy (p0::o0) (nth (QaI l a b) n) u=(p0::o0)++[⟨nth (QaI l a b) n,u⟩]:=if_pos (.inr hne)
     rw [hpu] at hc
     refine ⟨(n+1,(p0::o0)++[⟨nth (QaI l a b) n,u⟩]),⟨by omega,by dsimp only;rw [List.length_append];exact Nat.succ_le_succ ho,hc⟩,by omega,?_⟩
     refine ⟨rfl,?_,?_,rfl⟩
     repeat'(first|apply And.intro|exact ze0|refine ze1 ?_|refine zei ?_ ?_|exact rfl|trivial)
     all_goals exact Stop.mk (by first|rfl|exact Qn2 (p0::o0) ⟨nth (QaI l a b) n,u⟩)
    ·have hpu:Qfy (p0::o0) (nth (QaI l a b) n) u=p0::o0:=if_neg (not_or.2 ⟨by simp,fun h=>h (Qt7.1 (by assumption))⟩)
     rw [hpu] at hc
     refine ⟨(n+1,p0::o0),⟨by omega,Nat.le_succ_of_le ho,hc⟩,by omega,?_⟩
     exact ⟨rfl,zae,zae,rfl⟩
  ·rw [List.drop_eq_nil_of_le (by omega)] at hc
   have hc':QdR l a b (fun x=>subO x v) (QaI l a b) []=some out:=hc.symm
   have hol:=Qwd hp hs (fun _ _ _=>Qnn) hc'
   have hok:=Qu6 hp hs (fun _ _ _=>Qnn) hc'
   have hcp:chgP l a b (fun x=>subO x v)=if out.length≤200 then some out else none:=by rw [chgP,hc'];rfl
   have hco:=Qgo (l:=out) (by omega)
   rw [hok] at hco
   rw [hcp]
   by_cases h2:out.length≤200
   ·rw [decide_eq_true h2] at hco
    rw [if_pos h2]
    cases out with
    | nil=>
     repeat' (first|refine zsr ?_|(refine zhm fun hb=>?_;try exact zab)|refine zdr ?_|(apply zch;exact zcg)|refine HopS.mk fun w0 Z O=>?_|exact zhk|refine zg3 ?_ ?_|refine zln fun _=>?_|refine zop ?_|refine kc (hco) rfl rfl ?_|refine kq (hco) rfl rfl ?_|fail)
     show AWp _ _ _ _
     refine Qac ?_
     apply Qab
     exact zm () [] trivial zae zae zae
    | cons p0 o0=>
     repeat' (first|refine zsr ?_|(refine zhm fun hb=>?_;try exact zab)|refine zdr ?_|(apply zch;exact zcg)|refine HopS.mk fun w0 Z O=>?_|exact zhk|refine zg3 ?_ ?_|refine zln fun _=>?_|refine zop ?_|refine kc (hco) rfl rfl ?_|refine kq (hco) rfl rfl ?_|fail)
     show AWp _ _ _ _
     refine Qav 77 rfl ?_
     refine Qac ?_
     apply Qab
     exact zm () [] trivial zae zae zae
   ·rw [decide_eq_false h2] at hco
    rw [if_neg h2]
    cases out with
    | nil=>
     repeat' (first|refine zsr ?_|(refine zhm fun hb=>?_;try exact zab)|refine zdr ?_|(apply zch;exact zcg)|refine HopS.mk fun w0 Z O=>?_|exact zhk|refine zg3 ?_ ?_|refine zln fun _=>?_|refine zop ?_|refine kc (hco) rfl rfl ?_|refine kq (hco) rfl rfl ?_|fail)
     show AWp _ _ _ _
     refine Qac ?_
     apply Qab
     exact zm () [] trivial zae zae zae
    | cons p0 o0=>
     repeat' (first|refine zsr ?_|(refine zhm fun hb=>?_;try exact zab)|refine zdr ?_|(apply zch;exact zcg)|refine HopS.mk fun w0 Z O=>?_|exact zhk|refine zg3 ?_ ?_|refine zln fun _=>?_|refine zop ?_|refine kc (hco) rfl rfl ?_|refine kq (hco) rfl rfl ?_|fail)
     show AWp _ _ _ _
     refine Qac ?_
     apply Qab
     exact zm () [] trivial zae zae zae
end Go.Proofs.YtelbahebpmkfjaaGreat
namespace Go.Proofs.YtelbahebpmkfjaaGreat
open Go Go.RowKit
attribute [local irreducible] AWp Qat OpOk ACalls ChA QsOk MCalls EnC PY

theorem QiZ {l:List Pt} {a b:Int} {v:V3} (h:Qbr l=false∨QdT a b=false∨Qal v=false):Qd1 l a b v=none:=by
 unfold Qd1
 rw [if_neg]
 rcases h with h|h|h <;> simp [h]
theorem QrZ {l:List Pt} {a b:Int} {v:V3} (h1:Qbr l=true) (h2:QdT a b=true) (h3:Qal v=true):Qd1 l a b v=chgP l a b (fun x=>subO x v):=by
 unfold Qd1
 rw [if_pos]
 simp [h1,h2,h3]
theorem Qe3 {l:List Pt} {a b:Int} {v:V3} (hl:l.length≤1000000000):DC Tryz.prog 247 [Qfn l,.d (.n .i64 a),.d (.n .i64 b),vecA v] (resP (Qd1 l a b v)):=by
 refine Qag tt Tryz.func247 rfl rfl rfl trivial (fun _ _=>⟨trivial,trivial⟩) (fun w0 Z O=>?_)
 have c1:=Qkp hl
 have c2:=QtN (a:=a) (b:=b)
 have c3:=Qct (v:=v)
 cases h1:Qbr l with
 | false=>
  rw [h1] at c1
  rw [QiZ (.inl h1)]
  repeat' (first|refine zsr ?_|(refine zhm fun hb=>?_;try exact zab)|refine zg2 ?_ ?_|refine zop ?_|refine kc (c1) rfl rfl ?_|fail)
  show AWp _ _ _ _
  refine Qac ?_
  apply Qab
  exact zm () [] trivial zae zae zae
 | true=>
  rw [h1] at c1
  cases h2:QdT a b with
  | false=>
   rw [h2] at c2
   rw [QiZ (.inr (.inl h2))]
   repeat' (first|refine zsr ?_|(refine zhm fun hb=>?_;try exact zab)|refine zg2 ?_ ?_|refine zop ?_|refine kc (c1) rfl rfl ?_|refine kc (c2) rfl rfl ?_|fail)
   show AWp _ _ _ _
   refine Qac ?_
   apply Qab
   exact zm () [] trivial zae zae zae
  | true=>
   rw [h2] at c2
   cases h3:Qal v with
   | false=>
    rw [h3] at c3
    rw [QiZ (.inr (.inr h3))]
    repeat' (first|refine zsr ?_|(refine zhm fun hb=>?_;try exact zab)|refine zg2 ?_ ?_|refine zop ?_|refine kc (c1) rfl rfl ?_|refine kc (c2) rfl rfl ?_|refine kc (c3) rfl rfl ?_|fail)
    show AWp _ _ _ _
    refine Qac ?_
    apply Qab
    exact zm () [] trivial zae zae zae
   | true=>
    rw [h3] at c3
    rw [QrZ h1 h2 h3]
    have hch:=Qsr (a:=a) (b:=b) (g:=304) (ds:=[.n .i64 v.a,.n .i64 v.b,.n .i64 v.c]) (by':=fun x=>subO x v) (Qbt.1 h1) (fun x hx=>Qsq h3 hx)
    repeat' (first|refine zsr ?_|(refine zhm fun hb=>?_;try exact zab)|refine zg2 ?_ ?_|(apply Qcj;first|refine zom ?_|(refine QsO 7 rfl rfl ?_;refine QoG [] hch rfl rfl rfl rfl rfl (fun _ _=>rfl) rfl (fun i hi=>?_)))|refine zop ?_|refine kc (c1) rfl rfl ?_|refine kc (c2) rfl rfl ?_|refine kc (c3) rfl rfl ?_|fail)
    show AWp _ _ _ _
    refine Qac ?_
    apply Qab
    exact zm () [] trivial zae zae zae
theorem Qjg {l:List Pt} {a b:Int} {v:V3} (hl:l.length≤1000000000):DC Tryz.prog 293 [Qfn l,.d (.n .i64 a),.d (.n .i64 b),vecA v] (resP (Qd1 l a b v)):=by
 refine Qag tt Tryz.func293 rfl rfl rfl trivial (fun _ _=>⟨trivial,trivial⟩) (fun w0 Z O=>?_)
 have c1:=Qh0 (a:=a) (b:=b) hl
 cases h:(Qbr l&&QdT a b) with
 | false=>
  rw [h] at c1
  rw [QiZ (by cases e:Qbr l with|false=>exact .inl rfl|true=>rw [e] at h;exact .inr (.inl h))]
  repeat' (first|refine zsr ?_|(refine zhm fun hb=>?_;try exact zab)|refine zg2 ?_ ?_|refine zop ?_|refine kc (c1) rfl rfl ?_|fail)
  show AWp _ _ _ _
  refine Qac ?_
  apply Qab
  exact zm () [] trivial zae zae zae
 | true=>
  rw [h] at c1
  rw [Bool.and_eq_true] at h
  have hch:=Qm7 (a:=a) (b:=b) (v:=v) (Qbt.1 h.1) h.2
  rw [show Qd1 l a b v=chgP l a b (fun x=>subO x v) by
   cases h3:Qal v with
   | false=>rw [QiZ (.inr (.inr h3)),chgP,Qte (Qbt.1 h.1) h.2 h3];rfl
   | true=>exact QrZ h.1 h.2 h3]
  repeat' (first|refine zsr ?_|(refine zhm fun hb=>?_;try exact zab)|refine zg2 ?_ ?_|refine zop ?_|refine kc (c1) rfl rfl ?_|(refine km [] (hch) rfl rfl (fun i hi=>?_);(try dsimp only at hi))|fail)
  show AWp _ _ _ _
  refine Qac ?_
  apply Qab
  exact zm () [] trivial zae zae zae
end Go.Proofs.YtelbahebpmkfjaaGreat
