/-
  Profiles: what is free least, a change, taking; both.
-/
import Derived.Test.YtkdniahincpmaaaGreatKB11
set_option maxRecDepth 100000
set_option maxHeartbeats 16000000
namespace Go.Proofs.YtkdniahincpmaaaGreat
open Go Go.RowKit Tryz
section
attribute [local irreducible] AWp QI OpOk ACalls ChA QsOk MCalls EnC PY

def VI(l:List Pt)(a b:Int):V3:=l.foldl (fun v x=>if a<=x.at'/\x.at'<b then minO v x.free else v) (QL l a)
def Xo(l:List Pt)(a b:Int)(v0:V3):V3:=l.foldl (fun v x=>if a<=x.at'/\x.at'<b then minO v x.free else v) v0
theorem VL{l:List Pt}{i:Nat}(h:i<l.length)(a b:Int)(v0:V3):Xo (l.take (i+1)) a b v0=if a<=(nth l i).at'/\(nth l i).at'<b then minO (Xo (l.take i) a b v0) (nth l i).free else Xo (l.take i) a b v0:=by
 rw[Qo h,Xo,XaJ]
 rfl
@[reducible] def minR (ok:Bool) (v:V3):List AV:=[vecA (bif ok then v else zV),.d (.b ok)]
theorem Qfs{l:List Pt}{a b:Int}(hl:l.length<=1000000000):zAc 303 [Qav l,zI a,zI b] (minR (JS l&&Vx a b) (VI l a b)) []:=by
 refine zAC func303 fun w0 Z=>?_
 have g:(ptE l).length=l.length:=JN l
 cases c:(JS l&&Vx a b) with
 | false=>
  have e:=Qbv hl
  cases f:JS l with
  | false=>
   rw[f]at e
   repeat'(first|(refine zhm fun hb=>?_;try exact zab)|refine zUtp ?_|refine zg2 ?_ ?_|intro _)
   exact zrr
  | true=>
   rw[f]at e
   rw[f,Xbw]at c
   have j:¬((0<=a/\a<=1000000000)/\(0<=b/\b<=1000000000)/\a<b):=fun h=>by rw[W4.2 h]at c;cases c
   repeat'(first|(refine zhm fun hb=>?_;try exact zab)|refine zUtp ?_|refine zg2 ?_ ?_|refine kc (Wl (x:=a)) rfl rfl ?_|refine kc (Wl (x:=b)) rfl rfl ?_|intro _)
   all_goals
    exact zrr
 | true=>
  rw[Xab]at c
  have e:=Qbv hl
  rw[c.1]at e
  obtain⟨h1,h2,h3⟩:=W4.1 c.2
  repeat'(first|(refine zhm fun hb=>?_;try exact zab)|refine zUtp ?_|refine zg2 ?_ ?_|refine kc (Wl (x:=a)) rfl rfl ?_|refine kc (Wl (x:=b)) rfl rfl ?_|refine kc (Qek hl) rfl rfl ?_|intro _)
  refine Qa (fun(i:Nat)=>⟨56,[(1,zI a),(2,zI b),(6,.ptr 6 0),(8,.ptr 8 0),(34,zL (ptE l)),(35,zI (l.length:Nat)),(36,zI i)],[(6,.box 29 (vecC zV)),(8,.box 29 (vecC (Xo (l.take i) a b (QL l a))))]⟩) (fun i=>i<=l.length) (fun i=>l.length-i) 0 (by exact Xad _) ?_ ?_
  ·exact zll
  ·intro i hi
   repeat'(first|(refine zhm fun hb=>?_;try exact zab)|refine zUtp ?_|refine zg2 ?_ ?_|refine kc (QsI (a:=Xo (l.take i) a b (QL l a)) (b:=(nth l i).free)) rfl rfl ?_|intro _)
   ·refine⟨i+1,by omega,by omega,?_⟩
    refine⟨rfl,?_,?_,rfl⟩
    repeat'(first|exact ze3|refine ze2 ?_ ?_|refine ze4 ?_|exact ze5|fail)
    all_goals exact zp (by first|rfl|(rw[VL (by omega),if_pos ⟨by assumption,by assumption⟩]))
   ·refine⟨i+1,by omega,by omega,?_⟩
    refine⟨rfl,?_,?_,rfl⟩
    repeat'(first|exact ze3|refine ze2 ?_ ?_|refine ze4 ?_|exact ze5|fail)
    all_goals exact zp (by first|rfl|(rw[VL (by omega),if_neg (by omega)]))
   ·refine⟨i+1,by omega,by omega,?_⟩
    refine⟨rfl,?_,?_,rfl⟩
    repeat'(first|exact ze3|refine ze2 ?_ ?_|refine ze4 ?_|exact ze5|fail)
    all_goals exact zp (by first|rfl|(rw[VL (by omega),if_neg (by omega)]))
   ·rw[show VI l a b=Xo (l.take i) a b (QL l a) by rw[Xas (by omega)];rfl]
    exact zrr
@[reducible] def resP (o:Option (List Pt)):List AV:=[Qav (o.getD []),.d (.b o.isSome)]
theorem Qi0(L:List Int):((intE (cmpZ L)).take (cmpL L).length).drop 0=intE (cmpL L):=by
 rw[XbO,QpO,cmpZ,Xb5]
theorem Qmb(l:List Pt)(p:Pt):ptE l++[[.n .i64 p.at',.n .i64 p.free.a,.n .i64 p.free.b,.n .i64 p.free.c]]=ptE (l++[p]):=by simp[ptE]
theorem QlG{l:List Pt}{i:Nat}(h:i<l.length)(xs:List Int):intE (xs++atsI (l.take i))++[[.n .i64 (nth l i).at']]=intE (xs++atsI (l.take (i+1))):=by
 rw[Ji,Qo h]
 simp[atsI]
def pts0(out:List Pt):AV:=match out with
 | []=>.nil
 | _::_=>.row 89
def ob0(out:List Pt):List (Nat×AO):=match out with
 | []=>[]
 | _::_=>[(89,.row 282 (ptE out) true)]
theorem Qak{l:List Pt}{a b:Int}{by':V3->Option V3}{ts:List Int}{i:Nat}{out:List Pt}(h:i<ts.length)(hv:chgV l a b by' (nth ts i)=none):Vf l a b by' (ts.drop i) out=none:=by
 rw[Xbm h,<-Jb h,Vf,hv]
theorem X6{l:List Pt}{a b:Int}{by':V3->Option V3}{ts:List Int}{i:Nat}{out:List Pt}{v:V3}(h:i<ts.length)(hv:chgV l a b by' (nth ts i)=some v):Vf l a b by' (ts.drop i) out=Vf l a b by' (ts.drop (i+1)) (V1 out (nth ts i) v):=by
 rw[Xbm h,<-Jb h,Vf,hv]
theorem XX{l:List Pt}{a b:Int}{by':V3->Option V3}{t:Int}(h:a<=t/\t<b):chgV l a b by' t=by' (QL l t):=if_pos h
theorem V8{l:List Pt}{a b:Int}{by':V3->Option V3}{t:Int}(h:¬(a<=t/\t<b)):chgV l a b by' t=some (QL l t):=if_neg h
theorem Qdy{o:Option V3}(h:o.isSome=false):o=none:=by cases o with|none=>rfl|some v=>simp at h
theorem Qdu{o:Option V3}(h:o.isSome=true):o=some (o.getD zV):=by cases o with|none=>simp at h|some v=>rfl
theorem QqZ{l:List Pt}{a b:Int}{g:FuncId}{ds:List D}{by':V3->Option V3}(hp:Jy l)(hby:∀v,Qf v=true->zAc g [vecA v,.pd ds 0] (resV (by' v)) []) :
  DC Tryz.prog 255 [Qav l,zI a,zI b,.clo g [.pd ds 0]] (resP (chgP l a b by')):=by
 refine zMC func255 fun w0 Z O=>?_
 have hl:=hp.len
 have ad:(ptE l).length=l.length:=JN l
 repeat'(first|(refine zhm fun hb=>?_;try exact zab)|refine Qd ?_|(apply zch;exact zcg)|exact zhk|refine zg3 ?_ ?_|intro _)
 refine Qa (fun(i:Nat)=>⟨98,[(1,zI a),(2,zI b),(3,.clo g [.pd ds 0]),(4,.ptr 4 0),(8,.ptr 8 0),(10,.row 22),(24,zL (ptE l)),(25,zI (l.length:Nat)),(26,zI i)],[(4,.box 178 (Qhq l)),(8,.box 178 [.nil]),(22,.row 3 (intE ([a,b]++atsI (l.take i))) true)]⟩) (fun i=>i<=l.length) (fun i=>l.length-i) 0 (by exact Xad _) ?_ ?_
 ·exact zll
 ·intro i r
  have o:([a,b]++atsI (l.take i)).length=i+2:=by simp[atsI];omega
  have aa:(intE ([a,b]++atsI (l.take i))).length=i+2:=by rw[Qc];exact o
  by_cases u:i<l.length
  ·repeat'(first|(refine zhm fun hb=>?_;try exact zab)|refine Qd ?_|(apply zch;exact zcg)|exact zhk|refine zg3 ?_ ?_|intro _)
   ·refine⟨i+1,by omega,by omega,?_⟩
    refine zag ?_;exact zp (QlG u _)
  ·rw[show l.take i=l from Xas (by omega)]
   have p:([a,b]++atsI l).length<=1000000000:=by simp[atsI];omega
   have q:(srtI ([a,b]++atsI l)).length<=1000000000:=by rw[Yj];exact p
   repeat'(first|(refine zhm fun hb=>?_;try exact zab)|refine Qd ?_|(apply zch;exact zcg)|exact zhk|refine zg3 ?_ ?_|(refine km [22] (QrD (d:=true) p) rfl rfl (fun i r=>?_);try dsimp only at r)|(refine km [22] (QiI q) rfl rfl (fun i r=>?_);try dsimp only at r)|intro _)
   refine Qr 22 rfl ?_
   have m:JB l a b=QM l a b:=Qsq hp a b
   have ae:(JB l a b).length<=202:=by
    refine Xal (Qrc _) ?_
    rw[Yj];simp[atsI];omega
   refine Qa (fun(k:Nat×List Pt)=>⟨98,[(1,zI a),(2,zI b),(3,.clo g [.pd ds 0]),(4,.ptr 4 0),(8,.ptr 8 0),(13,.ptr 13 0),(40,zL (intE (JB l a b))),(41,zI ((JB l a b).length:Nat)),(42,zI k.1)],[(4,.box 178 (Qhq l)),(8,.box 178 [.nil]),(13,.box 178 [pts0 k.2])]++ob0 k.2⟩)
    (fun k=>k.1<=(JB l a b).length/\k.2.length<=k.1/\Vf l a b by' ((JB l a b).drop k.1) k.2=Vf l a b by' (JB l a b) []) (fun k=>(JB l a b).length-k.1) (0,[]) (by exact⟨Xad _,Xaj _,rfl⟩) ?_ ?_
   ·refine⟨rfl,?_,?_,rfl⟩
    repeat'(first|exact ze3|refine ze2 ?_ ?_|refine ze4 ?_|exact ze5|fail)
    all_goals first|exact zp rfl|exact zp (Qi0 _)|skip
   ·rintro ⟨n,c⟩ ⟨hn,s,e⟩
    dsimp only at hn s e ⊢
    have af:(intE (JB l a b)).length=(JB l a b).length:=Qc _
    have ac:(ptE c).length=c.length:=JN c
    by_cases f:n<(JB l a b).length
    ·cases c with
     | nil=>
      repeat'(first|(refine zhm fun hb=>?_;try exact zab)|(refine Qdk 56 (fun v:V3=>⟨98,[(1,zI a),(2,zI b),(3,.clo g [.pd ds 0]),(4,.ptr 4 0),(8,.ptr 8 0),(13,.ptr 13 0),(15,zI (nth (JB l a b) n)),(16,.ptr 16 0),(40,zL (intE (JB l a b))),(41,zI ((JB l a b).length:Nat)),(42,zI n)],[(4,.box 178 (Qhq l)),(8,.box 178 [.nil]),(13,.box 178 [pts0 ([])]),(16,.box 29 (vecC v))]++ob0 ([])⟩) (fun v=>chgV l a b by' (nth (JB l a b) n)=some v) ?_ ?_)|refine QtL ?_|(apply zch;exact zcg)|refine zpp fun w0 Z O=>?_|exact zhk|refine zg3 ?_ ?_|refine zln fun _=>?_|refine zop ?_|refine kc (Qim (l:=l) (by omega)) rfl rfl ?_|refine kv (hby _ (Y3 hp (nth (JB l a b) n))) rfl rfl rfl rfl rfl ?_|refine kq (Qim (l:=l) (by omega)) rfl rfl ?_|fail)
      ·rw[show chgP l a b by'=none by rw[chgP,<-m,<-e,Qak f (by rw[XX ⟨by assumption,by assumption⟩];exact Qdy (by assumption))];rfl]
       exact zDR
      ·refine⟨(by' (QL l (nth (JB l a b) n))).getD zV,by rw[XX ⟨by assumption,by assumption⟩];exact Qdu (by assumption),?_⟩
       exact zll
      ·exact⟨QL l (nth (JB l a b) n),V8 (by omega),zll⟩
      ·exact⟨QL l (nth (JB l a b) n),V8 (by omega),zll⟩
      intro v x
      rw[X6 f x]at e
      repeat'(first|(refine zhm fun hb=>?_;try exact zab)|refine Qd ?_|(apply zch;exact zcg)|exact zhk|refine zg3 ?_ ?_|intro _)
      refine⟨(n+1,V1 [] (nth (JB l a b) n) v),⟨by omega,by dsimp only;exact Xal (V7 _ _ _) (Xcr s),e⟩,by omega,?_⟩
      exact zll
     | cons p0 o0=>
      have z:0<(p0::o0).length:=Xco _
      repeat'(first|(refine zhm fun hb=>?_;try exact zab)|(refine Qdk 56 (fun v:V3=>⟨98,[(1,zI a),(2,zI b),(3,.clo g [.pd ds 0]),(4,.ptr 4 0),(8,.ptr 8 0),(13,.ptr 13 0),(15,zI (nth (JB l a b) n)),(16,.ptr 16 0),(40,zL (intE (JB l a b))),(41,zI ((JB l a b).length:Nat)),(42,zI n)],[(4,.box 178 (Qhq l)),(8,.box 178 [.nil]),(13,.box 178 [pts0 (p0::o0)]),(16,.box 29 (vecC v))]++ob0 (p0::o0)⟩) (fun v=>chgV l a b by' (nth (JB l a b) n)=some v) ?_ ?_)|refine QtL ?_|(apply zch;exact zcg)|refine zpp fun w0 Z O=>?_|exact zhk|refine zg3 ?_ ?_|refine zln fun _=>?_|refine zop ?_|refine kc (Qim (l:=l) (by omega)) rfl rfl ?_|refine kv (hby _ (Y3 hp (nth (JB l a b) n))) rfl rfl rfl rfl rfl ?_|refine kq (Qim (l:=l) (by omega)) rfl rfl ?_|fail)
      ·rw[show chgP l a b by'=none by rw[chgP,<-m,<-e,Qak f (by rw[XX ⟨by assumption,by assumption⟩];exact Qdy (by assumption))];rfl]
       exact zDR
      ·refine⟨(by' (QL l (nth (JB l a b) n))).getD zV,by rw[XX ⟨by assumption,by assumption⟩];exact Qdu (by assumption),?_⟩
       exact zll
      ·exact⟨QL l (nth (JB l a b) n),V8 (by omega),zll⟩
      ·exact⟨QL l (nth (JB l a b) n),V8 (by omega),zll⟩
      intro v x
      rw[X6 f x]at e
      repeat'(first|(refine zhm fun hb=>?_;try exact zab)|refine Qd ?_|(apply zch;exact zcg)|exact zhk|refine zg3 ?_ ?_|intro _)
      ·have w:(nth (p0::o0) ((p0::o0).length-1)).free≠v:=Qfr.1 (by assumption)
       have j:V1 (p0::o0) (nth (JB l a b) n) v=(p0::o0)++[⟨nth (JB l a b) n,v⟩]:=if_pos (.inr w)
       rw[j]at e
       refine⟨(n+1,(p0::o0)++[⟨nth (JB l a b) n,v⟩]),⟨by omega,by dsimp only;rw[Xaa];exact Xcr s,e⟩,by omega,?_⟩
       refine zag ?_;exact zp (Qmb (p0::o0) ⟨nth (JB l a b) n,v⟩)
      ·have j:V1 (p0::o0) (nth (JB l a b) n) v=p0::o0:=if_neg (not_or.2 ⟨by simp,fun h=>h (QfA.1 (by assumption))⟩)
       rw[j]at e
       refine⟨(n+1,p0::o0),⟨by omega,XbC s,e⟩,by omega,?_⟩
       exact zll
    ·rw[Xbf (by omega)]at e
     have t:chgP l a b by'=if c.length<=200 then some c else none:=by rw[chgP,<-m,<-e];rfl
     rw[t]
     cases c with
     | nil=>
      repeat'(first|(refine zhm fun hb=>?_;try exact zab)|refine QR ?_|(apply zch;exact zcg)|exact zhk|refine zg3 ?_ ?_|intro _)
      exact zDR
     | cons p0 o0=>
      by_cases y:(p0::o0).length<=200
      ·rw[if_pos y]
       repeat'(first|(refine zhm fun hb=>?_;try exact zab)|refine QR ?_|(apply zch;exact zcg)|exact zhk|refine zg3 ?_ ?_|intro _)
       show AWp _ _ _ _
       refine Qr 89 rfl ?_
       exact zDR
      ·rw[if_neg y]
       repeat'(first|(refine zhm fun hb=>?_;try exact zab)|refine QR ?_|(apply zch;exact zcg)|exact zhk|refine zg3 ?_ ?_|intro _)
       exact zDR
theorem Qo0{v x:V3}(hv:Qf v=true)(hx:Qf x=true):zAc 256 [vecA x,.pd [.n .i64 v.a,.n .i64 v.b,.n .i64 v.c] 0] (resV (subO x v)) []:=by
 refine zAC func256 fun w0 Z=>?_
 repeat'(first|(refine zhm fun hb=>?_;try exact zab)|refine zUto ?_|refine zg2 ?_ ?_|refine kc (QtA hx hv) rfl rfl ?_|intro _)
 exact zrr

def outK(l:List Pt)(a b:Int):Nat->List Int
 | 0=>atsI l
 | 1=>insI a false (atsI l)
 | _+2=>QM l a b
theorem Qyy{l:List Pt}{a b:Int}{k:Nat}(h:k<2):outK l a b (k+1)=insI (nth [a,b] k) false (outK l a b k):=by
 match k,h with
 | 0,_=>rfl
 | 1,_=>rfl
theorem QtD(l:List Pt)(a b:Int)(k:Nat):(outK l a b k).length<=l.length+2:=by
 have h3:(atsI l).length=l.length:=by simp[atsI]
 match k with
 | 0=>show(atsI l).length<=_;omega
 | 1=>have:=(QdC (t:=a) (l:=atsI l)).1;show(insI a false (atsI l)).length<=_;omega
 | _+2=>exact Qbc
structure InsP (t:Int) (L:List Int) (i:Nat) (dn:Bool) (pre:List Int):Prop where
 le:i<=L.length
 len:pre.length<=i+1
 len2:dn=false->pre.length<=i
 eq:pre++insI t dn (L.drop i)=insI t false L
theorem QsV{t:Int}{L:List Int}{i:Nat}{dn:Bool}{pre:List Int}(h:InsP t L i dn pre)(hi:i<L.length) :
  InsP t L (i+1) (dn||decide (t<=nth L i)) (pre++((if dn=false/\t<=nth L i then[t] else[])++(if nth L i≠t then[nth L i] else[]))):=by
 refine⟨by omega,?_,?_,?_⟩
 ·have h1:=h.len
  have b:=h.len2
  rw[Xaa,Xaa]
  by_cases a:dn=false/\t<=nth L i
  ·have:=b a.1
   rw[if_pos a]
   split <;> simp only[Xao,XaA] <;> omega
  ·rw[if_neg a]
   split <;> simp only[Xao,XaA] <;> omega
 ·intro c
  have b:=h.len2
  simp only[Bool.or_eq_false_iff,decide_eq_false_iff_not]at c
  have:=b c.1
  rw[Xaa,Xaa,if_neg (fun a=>c.2 a.2)]
  split <;> simp only[Xao,XaA] <;> omega
 ·rw[<-h.eq,Vo hi]
  simp only[insI,Xaq]
theorem Qwv{t:Int}{L:List Int}{i:Nat}{dn:Bool}{pre:List Int}(h:InsP t L i dn pre)(hi:¬i<L.length):insI t false L=pre++(if dn=true then[] else[t]):=by
 rw[<-h.eq,Xbf (by omega)]
 cases dn <;> rfl
theorem Qm9{l:List Pt}{a b:Int}(hl:l.length<=1000000):DC Tryz.prog 342 [Qav l,zI a,zI b] [zL (intE (QM l a b))]:=by
 refine zMC func342 fun w0 Z O=>?_
 have ac:(ptE l).length=l.length:=JN l
 repeat'(first|(refine zhm fun hb=>?_;try exact zab)|refine zUtp ?_|refine zg2 ?_ ?_|intro _)
 refine Qa (fun(i:Nat)=>⟨73,[(1,zI a),(2,zI b),(7,.row 16),(18,zL (ptE l)),(19,zI (l.length:Nat)),(20,zI i)],[(16,.row 3 (intE (atsI (l.take i))) true)]⟩) (fun i=>i<=l.length) (fun i=>l.length-i) 0 (by exact Xad _) ?_ ?_
 ·exact zll
 ·intro i o
  have m:(atsI (l.take i)).length=i:=by simp[atsI];omega
  have z:(intE (atsI (l.take i))).length=i:=by rw[Qc];exact m
  by_cases p:i<l.length
  ·repeat'(first|(refine zhm fun hb=>?_;try exact zab)|refine zUtp ?_|refine zg2 ?_ ?_|intro _)
   ·refine⟨i+1,by omega,by omega,?_⟩
    refine zag ?_;exact zp (QlG (xs:=[]) p)
  ·rw[show l.take i=l from Xas (by omega)]
   repeat'(first|(refine zhm fun hb=>?_;try exact zab)|refine zUtp ?_|refine zg2 ?_ ?_|intro _)
   refine Qr 16 rfl ?_
   refine Qa (fun(k:Nat)=>⟨73,[(7,zL (intE (outK l a b k))),(32,.row 32),(33,zI 2),(34,zI k)],[(32,.row 3 (intE [a,b]) true)]⟩) (fun k=>k<=2) (fun k=>2-k) 0 (by exact Xad _) ?_ ?_
   ·exact zll
   ·intro k hk
    have ab:=QtD l a b k
    have y:(intE [a,b]).length=2:=rfl
    have s:([a,b]:List Int).length=2:=rfl
    by_cases q:k<2
    ·repeat'(first|(refine zhm fun hb=>?_;try exact zab)|refine zUtp ?_|refine zg2 ?_ ?_|intro _)
     refine Qa (fun(x:Nat×Bool×List Int)=>⟨73,[(11,zI (nth [a,b] k)),(12,.row 38),(13,.d (.b x.2.1)),(32,.row 32),(33,zI 2),(34,zI k),(39,zL (intE (outK l a b k))),(40,zI ((outK l a b k).length:Nat)),(41,zI x.1)],[(32,.row 3 (intE [a,b]) true),(38,.row 3 (intE x.2.2) true)]⟩) (fun x=>InsP (nth [a,b] k) (outK l a b k) x.1 x.2.1 x.2.2) (fun x=>(outK l a b k).length-x.1) (0,false,[]) (by exact⟨Xad _,Xad _,fun _=>Xad _,rfl⟩) ?_ ?_
     ·exact zll
     ·rintro ⟨i,r,j⟩ h
      dsimp only at h ⊢
      have t:(intE (outK l a b k)).length=(outK l a b k).length:=Qc _
      have v:(intE j).length=j.length:=Qc _
      have aa:=h.len
      have u:=h.le
      by_cases o:i<(outK l a b k).length
      ·have c:=QsV h o
       cases r with
       | false=>
        have w:(intE j++[[D.n .i64 (nth [a,b] k)]]).length=j.length+1:=by simp[intE]
        repeat'(first|(refine zhm fun hb=>?_;try exact zab)|refine zUtp ?_|refine zg2 ?_ ?_|intro _)
        ·have e:nth [a,b] k<=nth (outK l a b k) i:=by assumption
         have g:nth (outK l a b k) i≠nth [a,b] k:=by assumption
         rw[if_pos ⟨rfl,e⟩,if_pos g,decide_eq_true e]at c
         refine⟨(i+1,_,_),c,by dsimp only;omega,?_⟩
         refine⟨rfl,?_,?_,rfl⟩
         repeat'(first|exact ze3|refine ze2 ?_ ?_|refine ze4 ?_|exact ze5|fail)
         all_goals exact zp (by first|rfl|(rw[decide_eq_true e];rfl)|simp[intE])
        ·have e:nth [a,b] k<=nth (outK l a b k) i:=by assumption
         have g:nth (outK l a b k) i=nth [a,b] k:=by assumption
         rw[if_pos ⟨rfl,e⟩,if_neg (not_not_intro g),decide_eq_true e]at c
         refine⟨(i+1,_,_),c,by dsimp only;omega,?_⟩
         refine⟨rfl,?_,?_,rfl⟩
         repeat'(first|exact ze3|refine ze2 ?_ ?_|refine ze4 ?_|exact ze5|fail)
         all_goals exact zp (by first|rfl|(rw[decide_eq_true e];rfl)|simp[intE])
        ·have e:¬nth [a,b] k<=nth (outK l a b k) i:=by assumption
         have g:nth (outK l a b k) i≠nth [a,b] k:=by assumption
         rw[if_neg (fun h=>e h.2),if_pos g,decide_eq_false e]at c
         refine⟨(i+1,_,_),c,by dsimp only;omega,?_⟩
         refine⟨rfl,?_,?_,rfl⟩
         repeat'(first|exact ze3|refine ze2 ?_ ?_|refine ze4 ?_|exact ze5|fail)
         all_goals exact zp (by first|rfl|(rw[decide_eq_false e];rfl)|simp[intE])
       | true=>
        repeat'(first|(refine zhm fun hb=>?_;try exact zab)|refine zUtp ?_|refine zg2 ?_ ?_|intro _)
        ·have g:nth (outK l a b k) i≠nth [a,b] k:=by assumption
         rw[if_neg (fun h=>by cases h.1),if_pos g]at c
         refine⟨(i+1,_,_),c,by dsimp only;omega,?_⟩
         refine zag ?_;exact zp (by simp[intE])
        ·have g:nth (outK l a b k) i=nth [a,b] k:=by assumption
         rw[if_neg (fun h=>by cases h.1),if_neg (not_not_intro g)]at c
         refine⟨(i+1,_,_),c,by dsimp only;omega,?_⟩
         refine zag ?_;exact zp (by simp[intE])
      ·have f:=Qwv h o
       rw[<-Qyy q]at f
       cases r with
       | false=>
        repeat'(first|(refine zhm fun hb=>?_;try exact zab)|(refine Qh 24 38 rfl ?_)|refine zUtp ?_|refine zg2 ?_ ?_|intro _)
        refine⟨k+1,by omega,by omega,?_⟩
        refine zag ?_;exact zp (by(rw[f];exact Ji _ _))
       | true=>
        repeat'(first|(refine zhm fun hb=>?_;try exact zab)|(refine Qh 24 38 rfl ?_)|refine zUtp ?_|refine zg2 ?_ ?_|intro _)
        refine⟨k+1,by omega,by omega,?_⟩
        refine zag ?_;exact zp (by(rw[f];simp))
    ·obtain rfl:k=2:=by omega
     repeat'(first|(refine zhm fun hb=>?_;try exact zab)|refine zUrp ?_|refine zg2 ?_ ?_|intro _)
     exact zDR

def ptsN(n:Nat)(out:List Pt):AV:=match out with
 | []=>.nil
 | _::_=>.row n
def obN(n:Nat)(out:List Pt):List (Nat×AO):=match out with
 | []=>[]
 | _::_=>[(n,.row 282 (ptE out) true)]
theorem Qku{l:List Pt}{a b:Int}{v:V3}(hp:Jy l)(hs:Vx a b=true):DC Tryz.prog 304 [Qav l,zI a,zI b,vecA v,.d (.b false)] (resP (chgP l a b (fun x=>subO x v))):=by
 refine zMC func304 fun w0 Z O=>?_
 have hl:=hp.len
 have aa:(ptE l).length=l.length:=JN l
 have ab:(QM l a b).length<=202:=by have:=Qbc (l:=l) (a:=a) (b:=b);omega
 repeat'(first|(refine zhm fun hb=>?_;try exact zab)|refine Qd ?_|(apply zch;exact zcg)|exact zhk|refine zg3 ?_ ?_|refine kmu (Qm9 (l:=l) (a:=a) (b:=b) (by omega)) ?_|intro _)
 refine Qa (fun(k:Nat×List Pt)=>⟨85,[(1,zI a),(2,zI b),(4,.d (.b false)),(5,.ptr 5 0),(8,.ptr 8 0),(10,.ptr 10 0),(12,.ptr 12 0),(22,zL (intE (QM l a b))),(23,zI ((QM l a b).length:Nat)),(24,zI k.1)],[(5,.box 178 (Qhq l)),(8,.box 29 (vecC v)),(10,.box 178 [.nil]),(12,.box 178 [ptsN 77 k.2])]++obN 77 k.2⟩)
  (fun k=>k.1<=(QM l a b).length/\k.2.length<=k.1/\Vf l a b (fun x=>subO x v) ((QM l a b).drop k.1) k.2=Vf l a b (fun x=>subO x v) (QM l a b) []) (fun k=>(QM l a b).length-k.1) (0,[]) (by exact⟨Xad _,Xaj _,rfl⟩) ?_ ?_
 ·exact zll
 ·rintro ⟨n,c⟩ ⟨w,o,e⟩
  dsimp only at w o e ⊢
  have ac:(intE (QM l a b)).length=(QM l a b).length:=Qc _
  have z:(ptE c).length=c.length:=JN c
  by_cases f:n<(QM l a b).length
  ·cases c with
   | nil=>
    repeat'(first|(refine zhm fun hb=>?_;try exact zab)|(refine Qdk 38 (fun u:V3=>⟨85,[(1,zI a),(2,zI b),(4,.d (.b false)),(5,.ptr 5 0),(8,.ptr 8 0),(10,.ptr 10 0),(12,.ptr 12 0),(14,zI (nth (QM l a b) n)),(15,.ptr 15 0),(22,zL (intE (QM l a b))),(23,zI ((QM l a b).length:Nat)),(24,zI n)],[(5,.box 178 (Qhq l)),(8,.box 29 (vecC v)),(10,.box 178 [.nil]),(12,.box 178 [ptsN 77 ([])]),(15,.box 29 (vecC u))]++obN 77 ([])⟩) (fun u=>chgV l a b (fun x=>subO x v) (nth (QM l a b) n)=some u) ?_ ?_)|refine QtL ?_|(apply zch;exact zcg)|refine zpp fun w0 Z O=>?_|exact zhk|refine zg3 ?_ ?_|refine zln fun _=>?_|refine zop ?_|refine kc (Qek (l:=l) (by omega)) rfl rfl ?_|refine kc (Qdo (a:=QL l (nth (QM l a b) n)) (b:=v)) rfl rfl ?_|refine kq (Qek (l:=l) (by omega)) rfl rfl ?_|refine kq (Qdo (a:=QL l (nth (QM l a b) n)) (b:=v)) rfl rfl ?_|fail)
    ·rw[show chgP l a b (fun x=>subO x v)=none by rw[chgP,<-e,Qak f (by rw[XX ⟨by assumption,by assumption⟩];exact Qdy (by assumption))];rfl]
     exact zDR
    ·refine⟨(subO (QL l (nth (QM l a b) n)) v).getD zV,by rw[XX ⟨by assumption,by assumption⟩];exact Qdu (by assumption),?_⟩
     exact zll
    ·exact⟨QL l (nth (QM l a b) n),V8 (by omega),zll⟩
    ·exact⟨QL l (nth (QM l a b) n),V8 (by omega),zll⟩
    intro u s
    rw[X6 f s]at e
    repeat'(first|(refine zhm fun hb=>?_;try exact zab)|refine Qd ?_|(apply zch;exact zcg)|exact zhk|refine zg3 ?_ ?_|intro _)
    refine⟨(n+1,V1 [] (nth (QM l a b) n) u),⟨by omega,by dsimp only;exact Xal (V7 _ _ _) (Xcr o),e⟩,by omega,?_⟩
    exact zll
   | cons p0 o0=>
    have t:0<(p0::o0).length:=Xco _
    repeat'(first|(refine zhm fun hb=>?_;try exact zab)|(refine Qdk 38 (fun u:V3=>⟨85,[(1,zI a),(2,zI b),(4,.d (.b false)),(5,.ptr 5 0),(8,.ptr 8 0),(10,.ptr 10 0),(12,.ptr 12 0),(14,zI (nth (QM l a b) n)),(15,.ptr 15 0),(22,zL (intE (QM l a b))),(23,zI ((QM l a b).length:Nat)),(24,zI n)],[(5,.box 178 (Qhq l)),(8,.box 29 (vecC v)),(10,.box 178 [.nil]),(12,.box 178 [ptsN 77 (p0::o0)]),(15,.box 29 (vecC u))]++obN 77 (p0::o0)⟩) (fun u=>chgV l a b (fun x=>subO x v) (nth (QM l a b) n)=some u) ?_ ?_)|refine QtL ?_|(apply zch;exact zcg)|refine zpp fun w0 Z O=>?_|exact zhk|refine zg3 ?_ ?_|refine zln fun _=>?_|refine zop ?_|refine kc (Qek (l:=l) (by omega)) rfl rfl ?_|refine kc (Qdo (a:=QL l (nth (QM l a b) n)) (b:=v)) rfl rfl ?_|refine kq (Qek (l:=l) (by omega)) rfl rfl ?_|refine kq (Qdo (a:=QL l (nth (QM l a b) n)) (b:=v)) rfl rfl ?_|fail)
    ·rw[show chgP l a b (fun x=>subO x v)=none by rw[chgP,<-e,Qak f (by rw[XX ⟨by assumption,by assumption⟩];exact Qdy (by assumption))];rfl]
     exact zDR
    ·refine⟨(subO (QL l (nth (QM l a b) n)) v).getD zV,by rw[XX ⟨by assumption,by assumption⟩];exact Qdu (by assumption),?_⟩
     exact zll
    ·exact⟨QL l (nth (QM l a b) n),V8 (by omega),zll⟩
    ·exact⟨QL l (nth (QM l a b) n),V8 (by omega),zll⟩
    intro u s
    rw[X6 f s]at e
    repeat'(first|(refine zhm fun hb=>?_;try exact zab)|refine Qd ?_|(apply zch;exact zcg)|exact zhk|refine zg3 ?_ ?_|intro _)
    ·have q:(nth (p0::o0) ((p0::o0).length-1)).free≠u:=Qfr.1 (by assumption)
     have j:V1 (p0::o0) (nth (QM l a b) n) u=(p0::o0)++[⟨nth (QM l a b) n,u⟩]:=if_pos (.inr q)
     rw[j]at e
     refine⟨(n+1,(p0::o0)++[⟨nth (QM l a b) n,u⟩]),⟨by omega,by dsimp only;rw[Xaa];exact Xcr o,e⟩,by omega,?_⟩
     refine zag ?_;exact zp (Qmb (p0::o0) ⟨nth (QM l a b) n,u⟩)
    ·have j:V1 (p0::o0) (nth (QM l a b) n) u=p0::o0:=if_neg (not_or.2 ⟨by simp,fun h=>h (QfA.1 (by assumption))⟩)
     rw[j]at e
     refine⟨(n+1,p0::o0),⟨by omega,XbC o,e⟩,by omega,?_⟩
     exact zll
  ·rw[Xbf (by omega)]at e
   have g:Vf l a b (fun x=>subO x v) (QM l a b) []=some c:=e.symm
   have y:=QvG hp hs (fun _ _ _=>QkO) g
   have r:=QuK hp hs (fun _ _ _=>QkO) g
   have p:chgP l a b (fun x=>subO x v)=if c.length<=200 then some c else none:=by rw[chgP,g];rfl
   have i:=Qbv (l:=c) (by omega)
   rw[r]at i
   rw[p]
   by_cases m:c.length<=200
   ·rw[decide_eq_true m]at i
    rw[if_pos m]
    cases c with
    | nil=>
     repeat'(first|(refine zhm fun hb=>?_;try exact zab)|refine QR ?_|(apply zch;exact zcg)|exact zhk|refine zg3 ?_ ?_|intro _)
     exact zDR
    | cons p0 o0=>
     repeat'(first|(refine zhm fun hb=>?_;try exact zab)|refine QR ?_|(apply zch;exact zcg)|exact zhk|refine zg3 ?_ ?_|intro _)
     show AWp _ _ _ _
     refine Qr 77 rfl ?_
     exact zDR
   ·rw[decide_eq_false m]at i
    rw[if_neg m]
    cases c with
    | nil=>
     repeat'(first|(refine zhm fun hb=>?_;try exact zab)|refine QR ?_|(apply zch;exact zcg)|exact zhk|refine zg3 ?_ ?_|intro _)
     exact zDR
    | cons p0 o0=>
     repeat'(first|(refine zhm fun hb=>?_;try exact zab)|refine QR ?_|(apply zch;exact zcg)|exact zhk|refine zg3 ?_ ?_|intro _)
     exact zDR

theorem QeE{l:List Pt}{a b:Int}{v:V3}(h:JS l=false\/Vx a b=false\/Qf v=false):Vn l a b v=none:=by
 unfold Vn
 rw[if_neg]
 rcases h with h|h|h <;> simp[h]
theorem QrF{l:List Pt}{a b:Int}{v:V3}(h1:JS l=true)(h2:Vx a b=true)(h3:Qf v=true):Vn l a b v=chgP l a b (fun x=>subO x v):=by
 unfold Vn
 rw[if_pos]
 simp[h1,h2,h3]
theorem Qaa{l:List Pt}{a b:Int}{v:V3}(hl:l.length<=1000000000):DC Tryz.prog 197 [Qav l,zI a,zI b,vecA v] (resP (Vn l a b v)):=by
 refine zMC func197 fun w0 Z O=>?_
 have h:=QhU hl
 have j:=QsA (a:=a) (b:=b)
 have k:=Yy (v:=v)
 cases d:JS l with
 | false=>
  rw[d]at h
  rw[QeE (.inl d)]
  repeat'(first|(refine zhm fun hb=>?_;try exact zab)|refine zUro ?_|refine zg2 ?_ ?_|intro _)
  exact zDR
 | true=>
  rw[d]at h
  cases f:Vx a b with
  | false=>
   rw[f]at j
   rw[QeE (.inr (.inl f))]
   repeat'(first|(refine zhm fun hb=>?_;try exact zab)|refine zUro ?_|refine zg2 ?_ ?_|intro _)
   exact zDR
  | true=>
   rw[f]at j
   cases e:Qf v with
   | false=>
    rw[e]at k
    rw[QeE (.inr (.inr e))]
    repeat'(first|(refine zhm fun hb=>?_;try exact zab)|refine zUro ?_|refine zg2 ?_ ?_|intro _)
    exact zDR
   | true=>
    rw[e]at k
    rw[QrF d f e]
    have m:=QqZ (a:=a) (b:=b) (g:=256) (ds:=[.n .i64 v.a,.n .i64 v.b,.n .i64 v.c]) (by':=fun x=>subO x v) (JH.1 d) (fun x hx=>Qo0 e hx)
    repeat'(first|(refine zhm fun hb=>?_;try exact zab)|refine zUr ?_|refine zg2 ?_ ?_|(apply VS;first|refine zom ?_|(refine Quc 7 rfl rfl ?_;refine Qlm [] m rfl rfl rfl rfl rfl (fun _ _=>rfl) rfl (fun i hi=>?_)))|refine zop ?_|refine zqj h ?_|refine zqj j ?_|refine zqj k ?_|fail)
    exact zDR
theorem QfM{l:List Pt}{a b:Int}{v:V3}(hl:l.length<=1000000000):DC Tryz.prog 272 [Qav l,zI a,zI b,vecA v] (resP (Vn l a b v)):=by
 refine zMC func272 fun w0 Z O=>?_
 have f:=Qfs (a:=a) (b:=b) hl
 cases h:(JS l&&Vx a b) with
 | false=>
  rw[h]at f
  rw[QeE (by cases e:JS l with|false=>exact .inl rfl|true=>rw[e]at h;exact .inr (.inl h))]
  repeat'(first|(refine zhm fun hb=>?_;try exact zab)|refine zUro ?_|refine zg2 ?_ ?_|intro _)
  exact zDR
 | true=>
  rw[h]at f
  rw[Xab]at h
  have d:=Qku (a:=a) (b:=b) (v:=v) (JH.1 h.1) h.2
  rw[show Vn l a b v=chgP l a b (fun x=>subO x v) by
   cases c:Qf v with
   | false=>rw[QeE (.inr (.inr c)),chgP,Qs1 (JH.1 h.1) h.2 c];rfl
   | true=>exact QrF h.1 h.2 c]
  repeat'(first|(refine zhm fun hb=>?_;try exact zab)|refine zUro ?_|refine zg2 ?_ ?_|refine kmu d ?_|intro _)
  exact zDR
end
end Go.Proofs.YtkdniahincpmaaaGreat
