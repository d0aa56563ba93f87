/-
  Profiles: what is free least, a change, taking; both.
-/
import Derived.Test.YtihgfennoalocaaGreatKB7
import Derived.Test.YtihgfennoalocaaGreatKB11
set_option maxRecDepth 100000
set_option maxHeartbeats 16000000
namespace Go.Proofs.YtihgfennoalocaaGreat
open Go Go.RowKit Tryz
section
attribute [local irreducible] AWp QJ OpOk ACalls ChA QsOk MCalls EnC PY

def WV(l:List Pt)(a b:Int):V3:=l.foldl (fun v x=>if a<=x.at'/\x.at'<b then minO v x.free else v) (JF l a)
def ZZ(l:List Pt)(a b:Int)(v0:V3):V3:=l.foldl (fun v x=>if a<=x.at'/\x.at'<b then minO v x.free else v) v0
theorem WY{l:List Pt}{i:Nat}(h:i<l.length)(a b:Int)(v0:V3):ZZ (l.take (i+1)) a b v0=if a<=(nth l i).at'/\(nth l i).at'<b then minO (ZZ (l.take i) a b v0) (nth l i).free else ZZ (l.take i) a b v0:=by
 rw[QI h,ZZ,XaQ]
 rfl
@[reducible] def minR (ok:Bool) (v:V3):List AV:=[vecA (bif ok then v else zV),.d (.b ok)]
theorem Qdt{l:List Pt}{a b:Int}(hl:l.length<=1000000000):zAc 293 [XA l,zI a,zI b] (minR (JJ l&&VE a b) (WV l a b)) []:=by
 refine zAC func293 fun w0 Z=>?_
 have hpl:(ptE l).length=l.length:=JD l
 cases hb0:(JJ l&&VE a b) with
 | false=>
  have hcs:=Qal hl
  cases hp:JJ l with
  | false=>
   rw[hp]at hcs
   repeat'(first|(refine zhm fun hb=>?_;try exact zab)|refine zUtp ?_|refine zg2 ?_ ?_|intro _|fail)
   exact zrr
  | true=>
   rw[hp]at hcs
   rw[hp,Xbx]at hb0
   have hsp:¬((0<=a/\a<=1000000000)/\(0<=b/\b<=1000000000)/\a<b):=fun h=>by rw[W5.2 h]at hb0;cases hb0
   repeat'(first|(refine zhm fun hb=>?_;try exact zab)|refine zUtp ?_|refine zg2 ?_ ?_|refine kc (Y1 (x:=a)) rfl rfl ?_|refine kc (Y1 (x:=b)) rfl rfl ?_|intro _|fail)
   all_goals
    exact zrr
 | true=>
  rw[Xaf]at hb0
  have hcs:=Qal hl
  rw[hb0.1]at hcs
  obtain⟨h1,h2,h3⟩:=W5.1 hb0.2
  repeat'(first|(refine zhm fun hb=>?_;try exact zab)|refine zUtp ?_|refine zg2 ?_ ?_|refine kc (Y1 (x:=a)) rfl rfl ?_|refine kc (Y1 (x:=b)) rfl rfl ?_|refine kc (QdZ hl) rfl rfl ?_|intro _|fail)
  refine Qa (fun(i:Nat)=>⟨56,[(1,zI a),(2,zI b),(6,.ptr 6 0),(8,.ptr 8 0),(34,zL (ptE l)),(35,zI (l.length:Nat)),(36,zI i)],[(6,.box 44 (vecC zV)),(8,.box 44 (vecC (ZZ (l.take i) a b (JF l a))))]⟩) (fun i=>i<=l.length) (fun i=>l.length-i) 0 (by exact Xab _) ?_ ?_
  ·exact zll
  ·intro i hi
   repeat'(first|(refine zhm fun hb=>?_;try exact zab)|refine zUtp ?_|refine zg2 ?_ ?_|refine kc (QpT (a:=ZZ (l.take i) a b (JF l a)) (b:=(nth l i).free)) rfl rfl ?_|intro _|fail)
   ·refine⟨i+1,by omega,by omega,?_⟩
    refine⟨rfl,?_,?_,rfl⟩
    repeat'(first|exact ze3|refine ze2 ?_ ?_|refine ze4 ?_|exact ze5|fail)
    all_goals exact zp (by first|rfl|(rw[WY (by omega),if_pos ⟨by assumption,by assumption⟩]))
   ·refine⟨i+1,by omega,by omega,?_⟩
    refine⟨rfl,?_,?_,rfl⟩
    repeat'(first|exact ze3|refine ze2 ?_ ?_|refine ze4 ?_|exact ze5|fail)
    all_goals exact zp (by first|rfl|(rw[WY (by omega),if_neg (by omega)]))
   ·refine⟨i+1,by omega,by omega,?_⟩
    refine⟨rfl,?_,?_,rfl⟩
    repeat'(first|exact ze3|refine ze2 ?_ ?_|refine ze4 ?_|exact ze5|fail)
    all_goals exact zp (by first|rfl|(rw[WY (by omega),if_neg (by omega)]))
   ·rw[show WV l a b=ZZ (l.take i) a b (JF l a) by rw[Xaz (by omega)];rfl]
    exact zrr
@[reducible] def resP (o:Option (List Pt)):List AV:=[XA (o.getD []),.d (.b o.isSome)]
theorem Qht(L:List Int):((intE (cmpZ L)).take (cmpL L).length).drop 0=intE (cmpL L):=by
 rw[XbM,QoF,cmpZ,Xb5]
theorem Qk1(l:List Pt)(p:Pt):ptE l++[[.n .i64 p.at',.n .i64 p.free.a,.n .i64 p.free.b,.n .i64 p.free.c]]=ptE (l++[p]):=by simp[ptE]
theorem QkC{l:List Pt}{i:Nat}(h:i<l.length)(xs:List Int):intE (xs++atsI (l.take i))++[[.n .i64 (nth l i).at']]=intE (xs++atsI (l.take (i+1))):=by
 rw[Jt,QI h]
 simp[atsI]
def pts0(out:List Pt):AV:=match out with
 | []=>.nil
 | _::_=>.row 89
def ob0(out:List Pt):List (Nat×AO):=match out with
 | []=>[]
 | _::_=>[(89,.row 280 (ptE out) true)]
theorem Xy{l:List Pt}{a b:Int}{by':V3->Option V3}{ts:List Int}{i:Nat}{out:List Pt}(h:i<ts.length)(hv:chgV l a b by' (nth ts i)=none):Vs l a b by' (ts.drop i) out=none:=by
 rw[Xa4 h,<-Ja h,Vs,hv]
theorem Xe{l:List Pt}{a b:Int}{by':V3->Option V3}{ts:List Int}{i:Nat}{out:List Pt}{v:V3}(h:i<ts.length)(hv:chgV l a b by' (nth ts i)=some v):Vs l a b by' (ts.drop i) out=Vs l a b by' (ts.drop (i+1)) (XQ out (nth ts i) v):=by
 rw[Xa4 h,<-Ja h,Vs,hv]
theorem ZW{l:List Pt}{a b:Int}{by':V3->Option V3}{t:Int}(h:a<=t/\t<b):chgV l a b by' t=by' (JF l t):=if_pos h
theorem Vr{l:List Pt}{a b:Int}{by':V3->Option V3}{t:Int}(h:¬(a<=t/\t<b)):chgV l a b by' t=some (JF l t):=if_neg h
theorem Qck{o:Option V3}(h:o.isSome=false):o=none:=by cases o with|none=>rfl|some v=>simp at h
theorem QcB{o:Option V3}(h:o.isSome=true):o=some (o.getD zV):=by cases o with|none=>simp at h|some v=>rfl
theorem Qnt{l:List Pt}{a b:Int}{g:FuncId}{ds:List D}{by':V3->Option V3}(hp:Jp l)(hby:∀v,Qh v=true->zAc g [vecA v,.pd ds 0] (resV (by' v)) []) :
  DC Tryz.prog 277 [XA l,zI a,zI b,.clo g [.pd ds 0]] (resP (chgP l a b by')):=by
 refine zMC func277 fun w0 Z O=>?_
 have hl:=hp.len
 have hpl:(ptE l).length=l.length:=JD l
 repeat'(first|(refine zhm fun hb=>?_;try exact zab)|refine Qe ?_|(apply zch;exact zcg)|exact zhk|refine zg3 ?_ ?_|intro _|fail)
 refine Qa (fun(i:Nat)=>⟨98,[(1,zI a),(2,zI b),(3,.clo g [.pd ds 0]),(4,.ptr 4 0),(8,.ptr 8 0),(10,.row 22),(24,zL (ptE l)),(25,zI (l.length:Nat)),(26,zI i)],[(4,.box 207 (QfG l)),(8,.box 207 [.nil]),(22,.row 3 (intE ([a,b]++atsI (l.take i))) true)]⟩) (fun i=>i<=l.length) (fun i=>l.length-i) 0 (by exact Xab _) ?_ ?_
 ·exact zll
 ·intro i hi
  have hil0:([a,b]++atsI (l.take i)).length=i+2:=by simp[atsI];omega
  have hil:(intE ([a,b]++atsI (l.take i))).length=i+2:=by rw[Qb];exact hil0
  by_cases hi':i<l.length
  ·repeat'(first|(refine zhm fun hb=>?_;try exact zab)|refine Qe ?_|(apply zch;exact zcg)|exact zhk|refine zg3 ?_ ?_|intro _|fail)
   ·refine⟨i+1,by omega,by omega,?_⟩
    refine zag ?_;exact zp (QkC hi' _)
  ·rw[show l.take i=l from Xaz (by omega)]
   have hsl:([a,b]++atsI l).length<=1000000000:=by simp[atsI];omega
   have hsl2:(srtI ([a,b]++atsI l)).length<=1000000000:=by rw[J4];exact hsl
   repeat'(first|(refine zhm fun hb=>?_;try exact zab)|refine Qe ?_|(apply zch;exact zcg)|exact zhk|refine zg3 ?_ ?_|(refine km [22] (Qn3 (d:=true) hsl) rfl rfl (fun i hi=>?_);try dsimp only at hi)|(refine km [22] (Qhf hsl2) rfl rfl (fun i hi=>?_);try dsimp only at hi)|intro _|fail)
   refine Qs 22 rfl ?_
   have hts:Jj l a b=QQ l a b:=QqU hp a b
   have htl:(Jj l a b).length<=202:=by
    refine Xao (QmX _) ?_
    rw[J4];simp[atsI];omega
   refine Qa (fun(k:Nat×List Pt)=>⟨98,[(1,zI a),(2,zI b),(3,.clo g [.pd ds 0]),(4,.ptr 4 0),(8,.ptr 8 0),(13,.ptr 13 0),(40,zL (intE (Jj l a b))),(41,zI ((Jj l a b).length:Nat)),(42,zI k.1)],[(4,.box 207 (QfG l)),(8,.box 207 [.nil]),(13,.box 207 [pts0 k.2])]++ob0 k.2⟩)
    (fun k=>k.1<=(Jj l a b).length/\k.2.length<=k.1/\Vs l a b by' ((Jj l a b).drop k.1) k.2=Vs l a b by' (Jj l a b) []) (fun k=>(Jj l a b).length-k.1) (0,[]) (by exact⟨Xab _,Xam _,rfl⟩) ?_ ?_
   ·refine⟨rfl,?_,?_,rfl⟩
    repeat'(first|exact ze3|refine ze2 ?_ ?_|refine ze4 ?_|exact ze5|fail)
    all_goals first|exact zp rfl|exact zp (Qht _)|skip
   ·rintro ⟨n,out⟩ ⟨hn,ho,hc⟩
    dsimp only at hn ho hc ⊢
    have htz:(intE (Jj l a b)).length=(Jj l a b).length:=Qb _
    have hop:(ptE out).length=out.length:=JD out
    by_cases hn':n<(Jj l a b).length
    ·cases out with
     | nil=>
      repeat'(first|(refine zhm fun hb=>?_;try exact zab)|(refine Qcd 56 (fun v:V3=>⟨98,[(1,zI a),(2,zI b),(3,.clo g [.pd ds 0]),(4,.ptr 4 0),(8,.ptr 8 0),(13,.ptr 13 0),(15,zI (nth (Jj l a b) n)),(16,.ptr 16 0),(40,zL (intE (Jj l a b))),(41,zI ((Jj l a b).length:Nat)),(42,zI n)],[(4,.box 207 (QfG l)),(8,.box 207 [.nil]),(13,.box 207 [pts0 ([])]),(16,.box 44 (vecC v))]++ob0 ([])⟩) (fun v=>chgV l a b by' (nth (Jj l a b) n)=some v) ?_ ?_)|refine QpR ?_|(apply zch;exact zcg)|refine zpp fun w0 Z O=>?_|exact zhk|refine zg3 ?_ ?_|refine zln fun _=>?_|refine zop ?_|refine kc (QhQ (l:=l) (by omega)) rfl rfl ?_|refine kv (hby _ (Xv hp (nth (Jj l a b) n))) rfl rfl rfl rfl rfl ?_|refine kq (QhQ (l:=l) (by omega)) rfl rfl ?_|fail)
      ·rw[show chgP l a b by'=none by rw[chgP,<-hts,<-hc,Xy hn' (by rw[ZW ⟨by assumption,by assumption⟩];exact Qck (by assumption))];rfl]
       exact zDR
      ·refine⟨(by' (JF l (nth (Jj l a b) n))).getD zV,by rw[ZW ⟨by assumption,by assumption⟩];exact QcB (by assumption),?_⟩
       exact zll
      ·exact⟨JF l (nth (Jj l a b) n),Vr (by omega),zll⟩
      ·exact⟨JF l (nth (Jj l a b) n),Vr (by omega),zll⟩
      intro v hv
      rw[Xe hn' hv]at hc
      repeat'(first|(refine zhm fun hb=>?_;try exact zab)|refine Qe ?_|(apply zch;exact zcg)|exact zhk|refine zg3 ?_ ?_|intro _|fail)
      refine⟨(n+1,XQ [] (nth (Jj l a b) n) v),⟨by omega,by dsimp only;exact Xao (Z1 _ _ _) (Xcq ho),hc⟩,by omega,?_⟩
      exact zll
     | cons p0 o0=>
      have hpos:0<(p0::o0).length:=Xcm _
      repeat'(first|(refine zhm fun hb=>?_;try exact zab)|(refine Qcd 56 (fun v:V3=>⟨98,[(1,zI a),(2,zI b),(3,.clo g [.pd ds 0]),(4,.ptr 4 0),(8,.ptr 8 0),(13,.ptr 13 0),(15,zI (nth (Jj l a b) n)),(16,.ptr 16 0),(40,zL (intE (Jj l a b))),(41,zI ((Jj l a b).length:Nat)),(42,zI n)],[(4,.box 207 (QfG l)),(8,.box 207 [.nil]),(13,.box 207 [pts0 (p0::o0)]),(16,.box 44 (vecC v))]++ob0 (p0::o0)⟩) (fun v=>chgV l a b by' (nth (Jj l a b) n)=some v) ?_ ?_)|refine QpR ?_|(apply zch;exact zcg)|refine zpp fun w0 Z O=>?_|exact zhk|refine zg3 ?_ ?_|refine zln fun _=>?_|refine zop ?_|refine kc (QhQ (l:=l) (by omega)) rfl rfl ?_|refine kv (hby _ (Xv hp (nth (Jj l a b) n))) rfl rfl rfl rfl rfl ?_|refine kq (QhQ (l:=l) (by omega)) rfl rfl ?_|fail)
      ·rw[show chgP l a b by'=none by rw[chgP,<-hts,<-hc,Xy hn' (by rw[ZW ⟨by assumption,by assumption⟩];exact Qck (by assumption))];rfl]
       exact zDR
      ·refine⟨(by' (JF l (nth (Jj l a b) n))).getD zV,by rw[ZW ⟨by assumption,by assumption⟩];exact QcB (by assumption),?_⟩
       exact zll
      ·exact⟨JF l (nth (Jj l a b) n),Vr (by omega),zll⟩
      ·exact⟨JF l (nth (Jj l a b) n),Vr (by omega),zll⟩
      intro v hv
      rw[Xe hn' hv]at hc
      repeat'(first|(refine zhm fun hb=>?_;try exact zab)|refine Qe ?_|(apply zch;exact zcg)|exact zhk|refine zg3 ?_ ?_|intro _|fail)
      ·have hne:(nth (p0::o0) ((p0::o0).length-1)).free≠v:=Qc0.1 (by assumption)
       have hpu:XQ (p0::o0) (nth (Jj l a b) n) v=(p0::o0)++[⟨nth (Jj l a b) n,v⟩]:=if_pos (.inr hne)
       rw[hpu]at hc
       refine⟨(n+1,(p0::o0)++[⟨nth (Jj l a b) n,v⟩]),⟨by omega,by dsimp only;rw[Xac];exact Xcq ho,hc⟩,by omega,?_⟩
       refine zag ?_;exact zp (Qk1 (p0::o0) ⟨nth (Jj l a b) n,v⟩)
      ·have hpu:XQ (p0::o0) (nth (Jj l a b) n) v=p0::o0:=if_neg (not_or.2 ⟨by simp,fun h=>h (Qen.1 (by assumption))⟩)
       rw[hpu]at hc
       refine⟨(n+1,p0::o0),⟨by omega,Nat.le_succ_of_le ho,hc⟩,by omega,?_⟩
       exact zll
    ·rw[Xa7 (by omega)]at hc
     have hcp:chgP l a b by'=if out.length<=200 then some out else none:=by rw[chgP,<-hts,<-hc];rfl
     rw[hcp]
     cases out with
     | nil=>
      repeat'(first|(refine zhm fun hb=>?_;try exact zab)|refine Q7 ?_|(apply zch;exact zcg)|exact zhk|refine zg3 ?_ ?_|intro _|fail)
      exact zDR
     | cons p0 o0=>
      by_cases h2:(p0::o0).length<=200
      ·rw[if_pos h2]
       repeat'(first|(refine zhm fun hb=>?_;try exact zab)|refine Q7 ?_|(apply zch;exact zcg)|exact zhk|refine zg3 ?_ ?_|intro _|fail)
       show AWp _ _ _ _
       refine Qs 89 rfl ?_
       exact zDR
      ·rw[if_neg h2]
       repeat'(first|(refine zhm fun hb=>?_;try exact zab)|refine Q7 ?_|(apply zch;exact zcg)|exact zhk|refine zg3 ?_ ?_|intro _|fail)
       exact zDR
theorem QoX{v x:V3}(hv:Qh v=true)(hx:Qh x=true):zAc 278 [vecA x,.pd [.n .i64 v.a,.n .i64 v.b,.n .i64 v.c] 0] (resV (subO x v)) []:=by
 refine zAC func278 fun w0 Z=>?_
 repeat'(first|(refine zhm fun hb=>?_;try exact zab)|refine zUto ?_|refine zg2 ?_ ?_|refine kc (Qrt hx hv) rfl rfl ?_|intro _|fail)
 exact zrr

def outK(l:List Pt)(a b:Int):Nat->List Int
 | 0=>atsI l
 | 1=>insI a false (atsI l)
 | _+2=>QQ l a b
theorem QuZ{l:List Pt}{a b:Int}{k:Nat}(h:k<2):outK l a b (k+1)=insI (nth [a,b] k) false (outK l a b k):=by
 match k,h with
 | 0,_=>rfl
 | 1,_=>rfl
theorem QpH(l:List Pt)(a b:Int)(k:Nat):(outK l a b k).length<=l.length+2:=by
 have h3:(atsI l).length=l.length:=by simp[atsI]
 match k with
 | 0=>show(atsI l).length<=_;omega
 | 1=>have:=(Qcs (t:=a) (l:=atsI l)).1;show(insI a false (atsI l)).length<=_;omega
 | _+2=>exact QdC
structure InsP (t:Int) (L:List Int) (i:Nat) (dn:Bool) (pre:List Int):Prop where
 le:i<=L.length
 len:pre.length<=i+1
 len2:dn=false->pre.length<=i
 eq:pre++insI t dn (L.drop i)=insI t false L
theorem QpP{t:Int}{L:List Int}{i:Nat}{dn:Bool}{pre:List Int}(h:InsP t L i dn pre)(hi:i<L.length) :
  InsP t L (i+1) (dn||decide (t<=nth L i)) (pre++((if dn=false/\t<=nth L i then[t] else[])++(if nth L i≠t then[nth L i] else[]))):=by
 refine⟨by omega,?_,?_,?_⟩
 ·have h1:=h.len
  have h2:=h.len2
  rw[Xac,Xac]
  by_cases a:dn=false/\t<=nth L i
  ·have:=h2 a.1
   rw[if_pos a]
   split <;> simp only[Xar,XaU] <;> omega
  ·rw[if_neg a]
   split <;> simp only[Xar,XaU] <;> omega
 ·intro hd
  have h2:=h.len2
  simp only[Bool.or_eq_false_iff,decide_eq_false_iff_not]at hd
  have:=h2 hd.1
  rw[Xac,Xac,if_neg (fun a=>hd.2 a.2)]
  split <;> simp only[Xar,XaU] <;> omega
 ·rw[<-h.eq,Vh hi]
  simp only[insI,Xaq]
theorem QsB{t:Int}{L:List Int}{i:Nat}{dn:Bool}{pre:List Int}(h:InsP t L i dn pre)(hi:¬i<L.length):insI t false L=pre++(if dn=true then[] else[t]):=by
 rw[<-h.eq,Xa7 (by omega)]
 cases dn <;> rfl
theorem Ql6{l:List Pt}{a b:Int}(hl:l.length<=1000000):DC Tryz.prog 311 [XA l,zI a,zI b] [zL (intE (QQ l a b))]:=by
 refine zMC func311 fun w0 Z O=>?_
 have hpl:(ptE l).length=l.length:=JD l
 repeat'(first|(refine zhm fun hb=>?_;try exact zab)|refine zUtp ?_|refine zg2 ?_ ?_|intro _|fail)
 refine Qa (fun(i:Nat)=>⟨73,[(1,zI a),(2,zI b),(7,.row 16),(18,zL (ptE l)),(19,zI (l.length:Nat)),(20,zI i)],[(16,.row 3 (intE (atsI (l.take i))) true)]⟩) (fun i=>i<=l.length) (fun i=>l.length-i) 0 (by exact Xab _) ?_ ?_
 ·exact zll
 ·intro i hi
  have hil0:(atsI (l.take i)).length=i:=by simp[atsI];omega
  have hil:(intE (atsI (l.take i))).length=i:=by rw[Qb];exact hil0
  by_cases hi':i<l.length
  ·repeat'(first|(refine zhm fun hb=>?_;try exact zab)|refine zUtp ?_|refine zg2 ?_ ?_|intro _|fail)
   ·refine⟨i+1,by omega,by omega,?_⟩
    refine zag ?_;exact zp (QkC (xs:=[]) hi')
  ·rw[show l.take i=l from Xaz (by omega)]
   repeat'(first|(refine zhm fun hb=>?_;try exact zab)|refine zUtp ?_|refine zg2 ?_ ?_|intro _|fail)
   refine Qs 16 rfl ?_
   refine Qa (fun(k:Nat)=>⟨73,[(7,zL (intE (outK l a b k))),(32,.row 32),(33,zI 2),(34,zI k)],[(32,.row 3 (intE [a,b]) true)]⟩) (fun k=>k<=2) (fun k=>2-k) 0 (by exact Xab _) ?_ ?_
   ·exact zll
   ·intro k hk
    have hol:=QpH l a b k
    have hel:(intE [a,b]).length=2:=rfl
    have hel2:([a,b]:List Int).length=2:=rfl
    by_cases hk':k<2
    ·repeat'(first|(refine zhm fun hb=>?_;try exact zab)|refine zUtp ?_|refine zg2 ?_ ?_|intro _|fail)
     refine Qa (fun(x:Nat×Bool×List Int)=>⟨73,[(11,zI (nth [a,b] k)),(12,.row 38),(13,.d (.b x.2.1)),(32,.row 32),(33,zI 2),(34,zI k),(39,zL (intE (outK l a b k))),(40,zI ((outK l a b k).length:Nat)),(41,zI x.1)],[(32,.row 3 (intE [a,b]) true),(38,.row 3 (intE x.2.2) true)]⟩) (fun x=>InsP (nth [a,b] k) (outK l a b k) x.1 x.2.1 x.2.2) (fun x=>(outK l a b k).length-x.1) (0,false,[]) (by exact⟨Xab _,Xab _,fun _=>Xab _,rfl⟩) ?_ ?_
     ·exact zll
     ·rintro ⟨i,dn,pre⟩ h
      dsimp only at h ⊢
      have hil2:(intE (outK l a b k)).length=(outK l a b k).length:=Qb _
      have hpl2:(intE pre).length=pre.length:=Qb _
      have hle:=h.len
      have hle2:=h.le
      by_cases hi:i<(outK l a b k).length
      ·have hst:=QpP h hi
       cases dn with
       | false=>
        have hpl3:(intE pre++[[D.n .i64 (nth [a,b] k)]]).length=pre.length+1:=by simp[intE]
        repeat'(first|(refine zhm fun hb=>?_;try exact zab)|refine zUtp ?_|refine zg2 ?_ ?_|intro _|fail)
        ·have e1:nth [a,b] k<=nth (outK l a b k) i:=by assumption
         have e2:nth (outK l a b k) i≠nth [a,b] k:=by assumption
         rw[if_pos ⟨rfl,e1⟩,if_pos e2,decide_eq_true e1]at hst
         refine⟨(i+1,_,_),hst,by dsimp only;omega,?_⟩
         refine⟨rfl,?_,?_,rfl⟩
         repeat'(first|exact ze3|refine ze2 ?_ ?_|refine ze4 ?_|exact ze5|fail)
         all_goals exact zp (by first|rfl|(rw[decide_eq_true e1];rfl)|simp[intE])
        ·have e1:nth [a,b] k<=nth (outK l a b k) i:=by assumption
         have e2:nth (outK l a b k) i=nth [a,b] k:=by assumption
         rw[if_pos ⟨rfl,e1⟩,if_neg (not_not_intro e2),decide_eq_true e1]at hst
         refine⟨(i+1,_,_),hst,by dsimp only;omega,?_⟩
         refine⟨rfl,?_,?_,rfl⟩
         repeat'(first|exact ze3|refine ze2 ?_ ?_|refine ze4 ?_|exact ze5|fail)
         all_goals exact zp (by first|rfl|(rw[decide_eq_true e1];rfl)|simp[intE])
        ·have e1:¬nth [a,b] k<=nth (outK l a b k) i:=by assumption
         have e2:nth (outK l a b k) i≠nth [a,b] k:=by assumption
         rw[if_neg (fun h=>e1 h.2),if_pos e2,decide_eq_false e1]at hst
         refine⟨(i+1,_,_),hst,by dsimp only;omega,?_⟩
         refine⟨rfl,?_,?_,rfl⟩
         repeat'(first|exact ze3|refine ze2 ?_ ?_|refine ze4 ?_|exact ze5|fail)
         all_goals exact zp (by first|rfl|(rw[decide_eq_false e1];rfl)|simp[intE])
       | true=>
        repeat'(first|(refine zhm fun hb=>?_;try exact zab)|refine zUtp ?_|refine zg2 ?_ ?_|intro _|fail)
        ·have e2:nth (outK l a b k) i≠nth [a,b] k:=by assumption
         rw[if_neg (fun h=>by cases h.1),if_pos e2]at hst
         refine⟨(i+1,_,_),hst,by dsimp only;omega,?_⟩
         refine zag ?_;exact zp (by simp[intE])
        ·have e2:nth (outK l a b k) i=nth [a,b] k:=by assumption
         rw[if_neg (fun h=>by cases h.1),if_neg (not_not_intro e2)]at hst
         refine⟨(i+1,_,_),hst,by dsimp only;omega,?_⟩
         refine zag ?_;exact zp (by simp[intE])
      ·have hend:=QsB h hi
       rw[<-QuZ hk']at hend
       cases dn with
       | false=>
        repeat'(first|(refine zhm fun hb=>?_;try exact zab)|(refine Qi 24 38 rfl ?_)|refine zUtp ?_|refine zg2 ?_ ?_|intro _|fail)
        refine⟨k+1,by omega,by omega,?_⟩
        refine zag ?_;exact zp (by(rw[hend];exact Jt _ _))
       | true=>
        repeat'(first|(refine zhm fun hb=>?_;try exact zab)|(refine Qi 24 38 rfl ?_)|refine zUtp ?_|refine zg2 ?_ ?_|intro _|fail)
        refine⟨k+1,by omega,by omega,?_⟩
        refine zag ?_;exact zp (by(rw[hend];simp))
    ·obtain rfl:k=2:=by omega
     repeat'(first|(refine zhm fun hb=>?_;try exact zab)|refine zUrp ?_|refine zg2 ?_ ?_|intro _|fail)
     exact zDR

def ptsN(n:Nat)(out:List Pt):AV:=match out with
 | []=>.nil
 | _::_=>.row n
def obN(n:Nat)(out:List Pt):List (Nat×AO):=match out with
 | []=>[]
 | _::_=>[(n,.row 280 (ptE out) true)]
theorem QiE{l:List Pt}{a b:Int}{v:V3}(hp:Jp l)(hs:VE a b=true):DC Tryz.prog 294 [XA l,zI a,zI b,vecA v,.d (.b false)] (resP (chgP l a b (fun x=>subO x v))):=by
 refine zMC func294 fun w0 Z O=>?_
 have hl:=hp.len
 have hpl:(ptE l).length=l.length:=JD l
 have htl:(QQ l a b).length<=202:=by have:=QdC (l:=l) (a:=a) (b:=b);omega
 repeat'(first|(refine zhm fun hb=>?_;try exact zab)|refine Qe ?_|(apply zch;exact zcg)|exact zhk|refine zg3 ?_ ?_|refine kmu (Ql6 (l:=l) (a:=a) (b:=b) (by omega)) ?_|intro _|fail)
 refine Qa (fun(k:Nat×List Pt)=>⟨85,[(1,zI a),(2,zI b),(4,.d (.b false)),(5,.ptr 5 0),(8,.ptr 8 0),(10,.ptr 10 0),(12,.ptr 12 0),(22,zL (intE (QQ l a b))),(23,zI ((QQ l a b).length:Nat)),(24,zI k.1)],[(5,.box 207 (QfG l)),(8,.box 44 (vecC v)),(10,.box 207 [.nil]),(12,.box 207 [ptsN 77 k.2])]++obN 77 k.2⟩)
  (fun k=>k.1<=(QQ l a b).length/\k.2.length<=k.1/\Vs l a b (fun x=>subO x v) ((QQ l a b).drop k.1) k.2=Vs l a b (fun x=>subO x v) (QQ l a b) []) (fun k=>(QQ l a b).length-k.1) (0,[]) (by exact⟨Xab _,Xam _,rfl⟩) ?_ ?_
 ·exact zll
 ·rintro ⟨n,out⟩ ⟨hn,ho,hc⟩
  dsimp only at hn ho hc ⊢
  have htz:(intE (QQ l a b)).length=(QQ l a b).length:=Qb _
  have hop:(ptE out).length=out.length:=JD out
  by_cases hn':n<(QQ l a b).length
  ·cases out with
   | nil=>
    repeat'(first|(refine zhm fun hb=>?_;try exact zab)|(refine Qcd 38 (fun u:V3=>⟨85,[(1,zI a),(2,zI b),(4,.d (.b false)),(5,.ptr 5 0),(8,.ptr 8 0),(10,.ptr 10 0),(12,.ptr 12 0),(14,zI (nth (QQ l a b) n)),(15,.ptr 15 0),(22,zL (intE (QQ l a b))),(23,zI ((QQ l a b).length:Nat)),(24,zI n)],[(5,.box 207 (QfG l)),(8,.box 44 (vecC v)),(10,.box 207 [.nil]),(12,.box 207 [ptsN 77 ([])]),(15,.box 44 (vecC u))]++obN 77 ([])⟩) (fun u=>chgV l a b (fun x=>subO x v) (nth (QQ l a b) n)=some u) ?_ ?_)|refine QpR ?_|(apply zch;exact zcg)|refine zpp fun w0 Z O=>?_|exact zhk|refine zg3 ?_ ?_|refine zln fun _=>?_|refine zop ?_|refine kc (QdZ (l:=l) (by omega)) rfl rfl ?_|refine kc (Qce (a:=JF l (nth (QQ l a b) n)) (b:=v)) rfl rfl ?_|refine kq (QdZ (l:=l) (by omega)) rfl rfl ?_|refine kq (Qce (a:=JF l (nth (QQ l a b) n)) (b:=v)) rfl rfl ?_|fail)
    ·rw[show chgP l a b (fun x=>subO x v)=none by rw[chgP,<-hc,Xy hn' (by rw[ZW ⟨by assumption,by assumption⟩];exact Qck (by assumption))];rfl]
     exact zDR
    ·refine⟨(subO (JF l (nth (QQ l a b) n)) v).getD zV,by rw[ZW ⟨by assumption,by assumption⟩];exact QcB (by assumption),?_⟩
     exact zll
    ·exact⟨JF l (nth (QQ l a b) n),Vr (by omega),zll⟩
    ·exact⟨JF l (nth (QQ l a b) n),Vr (by omega),zll⟩
    intro u hv
    rw[Xe hn' hv]at hc
    repeat'(first|(refine zhm fun hb=>?_;try exact zab)|refine Qe ?_|(apply zch;exact zcg)|exact zhk|refine zg3 ?_ ?_|intro _|fail)
    refine⟨(n+1,XQ [] (nth (QQ l a b) n) u),⟨by omega,by dsimp only;exact Xao (Z1 _ _ _) (Xcq ho),hc⟩,by omega,?_⟩
    exact zll
   | cons p0 o0=>
    have hpos:0<(p0::o0).length:=Xcm _
    repeat'(first|(refine zhm fun hb=>?_;try exact zab)|(refine Qcd 38 (fun u:V3=>⟨85,[(1,zI a),(2,zI b),(4,.d (.b false)),(5,.ptr 5 0),(8,.ptr 8 0),(10,.ptr 10 0),(12,.ptr 12 0),(14,zI (nth (QQ l a b) n)),(15,.ptr 15 0),(22,zL (intE (QQ l a b))),(23,zI ((QQ l a b).length:Nat)),(24,zI n)],[(5,.box 207 (QfG l)),(8,.box 44 (vecC v)),(10,.box 207 [.nil]),(12,.box 207 [ptsN 77 (p0::o0)]),(15,.box 44 (vecC u))]++obN 77 (p0::o0)⟩) (fun u=>chgV l a b (fun x=>subO x v) (nth (QQ l a b) n)=some u) ?_ ?_)|refine QpR ?_|(apply zch;exact zcg)|refine zpp fun w0 Z O=>?_|exact zhk|refine zg3 ?_ ?_|refine zln fun _=>?_|refine zop ?_|refine kc (QdZ (l:=l) (by omega)) rfl rfl ?_|refine kc (Qce (a:=JF l (nth (QQ l a b) n)) (b:=v)) rfl rfl ?_|refine kq (QdZ (l:=l) (by omega)) rfl rfl ?_|refine kq (Qce (a:=JF l (nth (QQ l a b) n)) (b:=v)) rfl rfl ?_|fail)
    ·rw[show chgP l a b (fun x=>subO x v)=none by rw[chgP,<-hc,Xy hn' (by rw[ZW ⟨by assumption,by assumption⟩];exact Qck (by assumption))];rfl]
     exact zDR
    ·refine⟨(subO (JF l (nth (QQ l a b) n)) v).getD zV,by rw[ZW ⟨by assumption,by assumption⟩];exact QcB (by assumption),?_⟩
     exact zll
    ·exact⟨JF l (nth (QQ l a b) n),Vr (by omega),zll⟩
    ·exact⟨JF l (nth (QQ l a b) n),Vr (by omega),zll⟩
    intro u hv
    rw[Xe hn' hv]at hc
    repeat'(first|(refine zhm fun hb=>?_;try exact zab)|refine Qe ?_|(apply zch;exact zcg)|exact zhk|refine zg3 ?_ ?_|intro _|fail)
    ·have hne:(nth (p0::o0) ((p0::o0).length-1)).free≠u:=Qc0.1 (by assumption)
     have hpu:XQ (p0::o0) (nth (QQ l a b) n) u=(p0::o0)++[⟨nth (QQ l a b) n,u⟩]:=if_pos (.inr hne)
     rw[hpu]at hc
     refine⟨(n+1,(p0::o0)++[⟨nth (QQ l a b) n,u⟩]),⟨by omega,by dsimp only;rw[Xac];exact Xcq ho,hc⟩,by omega,?_⟩
     refine zag ?_;exact zp (Qk1 (p0::o0) ⟨nth (QQ l a b) n,u⟩)
    ·have hpu:XQ (p0::o0) (nth (QQ l a b) n) u=p0::o0:=if_neg (not_or.2 ⟨by simp,fun h=>h (Qen.1 (by assumption))⟩)
     rw[hpu]at hc
     refine⟨(n+1,p0::o0),⟨by omega,Nat.le_succ_of_le ho,hc⟩,by omega,?_⟩
     exact zll
  ·rw[Xa7 (by omega)]at hc
   have hc':Vs l a b (fun x=>subO x v) (QQ l a b) []=some out:=hc.symm
   have hol:=Qtb hp hs (fun _ _ _=>QiZ) hc'
   have hok:=Qsb hp hs (fun _ _ _=>QiZ) hc'
   have hcp:chgP l a b (fun x=>subO x v)=if out.length<=200 then some out else none:=by rw[chgP,hc'];rfl
   have hco:=Qal (l:=out) (by omega)
   rw[hok]at hco
   rw[hcp]
   by_cases h2:out.length<=200
   ·rw[decide_eq_true h2]at hco
    rw[if_pos h2]
    cases out with
    | nil=>
     repeat'(first|(refine zhm fun hb=>?_;try exact zab)|refine Q7 ?_|(apply zch;exact zcg)|exact zhk|refine zg3 ?_ ?_|intro _|fail)
     exact zDR
    | cons p0 o0=>
     repeat'(first|(refine zhm fun hb=>?_;try exact zab)|refine Q7 ?_|(apply zch;exact zcg)|exact zhk|refine zg3 ?_ ?_|intro _|fail)
     show AWp _ _ _ _
     refine Qs 77 rfl ?_
     exact zDR
   ·rw[decide_eq_false h2]at hco
    rw[if_neg h2]
    cases out with
    | nil=>
     repeat'(first|(refine zhm fun hb=>?_;try exact zab)|refine Q7 ?_|(apply zch;exact zcg)|exact zhk|refine zg3 ?_ ?_|intro _|fail)
     exact zDR
    | cons p0 o0=>
     repeat'(first|(refine zhm fun hb=>?_;try exact zab)|refine Q7 ?_|(apply zch;exact zcg)|exact zhk|refine zg3 ?_ ?_|intro _|fail)
     exact zDR

theorem Qd7{l:List Pt}{a b:Int}{v:V3}(h:JJ l=false\/VE a b=false\/Qh v=false):VB l a b v=none:=by
 unfold VB
 rw[if_neg]
 rcases h with h|h|h <;> simp[h]
theorem Qn2{l:List Pt}{a b:Int}{v:V3}(h1:JJ l=true)(h2:VE a b=true)(h3:Qh v=true):VB l a b v=chgP l a b (fun x=>subO x v):=by
 unfold VB
 rw[if_pos]
 simp[h1,h2,h3]
theorem Xx{l:List Pt}{a b:Int}{v:V3}(hl:l.length<=1000000000):DC Tryz.prog 242 [XA l,zI a,zI b,vecA v] (resP (VB l a b v)):=by
 refine zMC func242 fun w0 Z O=>?_
 have c1:=QfH hl
 have c2:=QqD (a:=a) (b:=b)
 have c3:=Yh (v:=v)
 cases h1:JJ l with
 | false=>
  rw[h1]at c1
  rw[Qd7 (.inl h1)]
  repeat'(first|(refine zhm fun hb=>?_;try exact zab)|refine zUro ?_|refine zg2 ?_ ?_|intro _|fail)
  exact zDR
 | true=>
  rw[h1]at c1
  cases h2:VE a b with
  | false=>
   rw[h2]at c2
   rw[Qd7 (.inr (.inl h2))]
   repeat'(first|(refine zhm fun hb=>?_;try exact zab)|refine zUro ?_|refine zg2 ?_ ?_|intro _|fail)
   exact zDR
  | true=>
   rw[h2]at c2
   cases h3:Qh v with
   | false=>
    rw[h3]at c3
    rw[Qd7 (.inr (.inr h3))]
    repeat'(first|(refine zhm fun hb=>?_;try exact zab)|refine zUro ?_|refine zg2 ?_ ?_|intro _|fail)
    exact zDR
   | true=>
    rw[h3]at c3
    rw[Qn2 h1 h2 h3]
    have hch:=Qnt (a:=a) (b:=b) (g:=278) (ds:=[.n .i64 v.a,.n .i64 v.b,.n .i64 v.c]) (by':=fun x=>subO x v) (JK.1 h1) (fun x hx=>QoX h3 hx)
    repeat'(first|(refine zhm fun hb=>?_;try exact zab)|refine zUr ?_|refine zg2 ?_ ?_|(apply YE;first|refine zom ?_|(refine Qrx 7 rfl rfl ?_;refine QjV [] hch rfl rfl rfl rfl rfl (fun _ _=>rfl) rfl (fun i hi=>?_)))|refine zop ?_|refine zqj c1 ?_|refine zqj c2 ?_|refine zqj c3 ?_|fail)
    exact zDR
theorem QeM{l:List Pt}{a b:Int}{v:V3}(hl:l.length<=1000000000):DC Tryz.prog 267 [XA l,zI a,zI b,vecA v] (resP (VB l a b v)):=by
 refine zMC func267 fun w0 Z O=>?_
 have c1:=Qdt (a:=a) (b:=b) hl
 cases h:(JJ l&&VE a b) with
 | false=>
  rw[h]at c1
  rw[Qd7 (by cases e:JJ l with|false=>exact .inl rfl|true=>rw[e]at h;exact .inr (.inl h))]
  repeat'(first|(refine zhm fun hb=>?_;try exact zab)|refine zUro ?_|refine zg2 ?_ ?_|intro _|fail)
  exact zDR
 | true=>
  rw[h]at c1
  rw[Xaf]at h
  have hch:=QiE (a:=a) (b:=b) (v:=v) (JK.1 h.1) h.2
  rw[show VB l a b v=chgP l a b (fun x=>subO x v) by
   cases h3:Qh v with
   | false=>rw[Qd7 (.inr (.inr h3)),chgP,Qq1 (JK.1 h.1) h.2 h3];rfl
   | true=>exact Qn2 h.1 h.2 h3]
  repeat'(first|(refine zhm fun hb=>?_;try exact zab)|refine zUro ?_|refine zg2 ?_ ?_|refine kmu hch ?_|intro _|fail)
  exact zDR
end
end Go.Proofs.YtihgfennoalocaaGreat
