/-
  Rooms: RoomOk of a right room, different nodes; both.
-/
import Derived.Test.YtkdniahincpmaaaGreatQB11
set_option maxRecDepth 100000
set_option maxHeartbeats 16000000
namespace Go.Proofs.YtkdniahincpmaaaGreat
open Go Go.RowKit Tryz
section
attribute [local irreducible] AWp QM OpOk ACalls ChA QsOk MCalls EnC PY

theorem Q6.small{r:Jn}(h:Q6 r):(r.topo.parents.length<=24/\r.topo.nodes.length<=24)/\r.up.length<=24/\r.profs.length<=24/\r.lics.length<=200:=by
 have h1:=h.topo.len
 have h2:=h.topo.nlen
 have h3:=h.up
 have h4:=h.num
 have h5:=h.lics.len
 omega
theorem Qde{r:Jn}(h:Q6 r):zAc 203 [Ws r] [.d (.b true)] []:=by
 refine zAC func203 fun w0 Z=>?_
 have hs:=h.small
 have h1:=h.up
 have h2:=h.num
 have e:=Qdx (t:=r.topo) (by omega) (by omega)
 rw[J8.2 h.topo]at e
 have f:=Qhy (l:=r.lics) (by omega)
 rw[JE.2 h.lics]at f
 repeat'(first|(refine zhm fun hb=>?_;try exact zab)|refine zUtp ?_|refine zg2 ?_ ?_|intro _)
 refine Qa (fun(i:Nat)=>⟨43,[(1,.ptr 1 0),(30,zL (Q7 r.profs)),(31,zI (r.profs.length:Nat)),(32,zI i)],[(1,.box 180 (QbV r))]⟩) (fun i=>i<=r.profs.length) (fun i=>r.profs.length-i) 0 (by exact Xae _) ?_ ?_
 ·exact zll
 ·intro i hi
  have hl:=QB r.profs
  by_cases a:i<r.profs.length
  ·have c:=h.profs i a
   have g:=Qhy (l:=nth r.profs i) (by have:=c.len;omega)
   rw[JE.2 c]at g
   repeat'(first|(refine zhm fun hb=>?_;try exact zab)|refine zUtp ?_|refine zg2 ?_ ?_|intro _)
   exact⟨i+1,by omega,by omega,zll⟩
  ·repeat'(first|(refine zhm fun hb=>?_;try exact zab)|refine zUtp ?_|refine zg2 ?_ ?_|intro _)
   exact zrr
theorem Qdl{r:Jn}(h:Q6 r):zAc 213 [Ws r] [.d (.b true)] []:=by
 refine zAC func213 fun w0 Z=>?_
 have hs:=h.small
 have h1:=h.up
 have h2:=h.num
 have e:=ZW (t:=r.topo) (by omega) (by omega)
 rw[J8.2 h.topo]at e
 have f:=QbK (l:=r.lics) (by omega)
 rw[JE.2 h.lics]at f
 repeat'(first|(refine zhm fun hb=>?_;try exact zab)|refine zUtp ?_|refine zg2 ?_ ?_|intro _)
 refine Qa (fun(i:Nat)=>⟨46,[(36,zL (Q7 r.profs)),(37,zI (r.profs.length:Nat)),(38,zI i)],[]⟩) (fun i=>i<=r.profs.length) (fun i=>r.profs.length-i) 0 (by exact Xae _) ?_ ?_
 ·exact zll
 ·intro i hi
  have hl:=QB r.profs
  by_cases a:i<r.profs.length
  ·have c:=h.profs i a
   have g:=QbK (l:=nth r.profs i) (by have:=c.len;omega)
   rw[JE.2 c]at g
   repeat'(first|(refine zhm fun hb=>?_;try exact zab)|refine zUtp ?_|refine zg2 ?_ ?_|intro _)
   exact⟨i+1,by omega,by omega,zll⟩
  ·repeat'(first|(refine zhm fun hb=>?_;try exact zab)|refine zUtp ?_|refine zg2 ?_ ?_|intro _)
   exact zrr
theorem Qoh{t:QX}{j:Job}{l:List Int}{i:Nat}(hi:i<l.length)(h:hasI (l.take i) (nth l i)=true):Z4 t j l=false:=pB_f.2 fun hd=>by rw[hd.diff i hi]at h;cases h
theorem QpD{t:QX}{j:Job}{l:List Int}(h:(l.length:Int)≠j.nodes):Z4 t j l=false:=pB_f.2 fun hd=>h hd.num
theorem QqT{t:QX}{j:Job}{l:List Int}(ht:Q3 t)(h:Z0 t l=false):Z4 t j l=false:=pB_f.2 fun hd=>by rw[Zo.2 ⟨hd.nodes,ht⟩]at h;cases h
theorem QuI{t:QX}{j:Job}{l:List Int}(h1:∀i,i<l.length->hasI (l.take i) (nth l i)=false)(h2:(l.length:Int)=j.nodes)(h3:Z0 t l=true):Z4 t j l=true:=pB_t.2 ⟨(Zo.1 h3).1,h1,h2⟩
theorem Qqd(l:List Int)(i:Nat):(List.drop 0 ((intE l).take i))=intE (l.take i):=by simp[intE,List.map_take]
theorem QbG{t:QX}{j:Job}{l:List Int}(ht:Q3 t)(hl:l.length<=1000000000):zAc 251 [YW t,jobA j,zL (intE l)] [.d (.b (Z4 t j l))] []:=by
 refine zAC func251 fun w0 Z=>?_
 have o:=ht.len
 have n:=ht.nlen
 repeat'(first|(refine zhm fun hb=>?_;try exact zab)|refine zUtp ?_|refine zg2 ?_ ?_|intro _)
 refine Qa (fun(i:Nat)=>⟨32,[(2,zL (intE l)),(3,.ptr 3 0),(4,.ptr 4 0),(9,zL (intE l)),(10,zI (l.length:Nat)),(11,zI i)],[(3,.box 26 (WH t)),(4,.box 40 ((jobD j).map AV.d))]⟩) (fun i=>i<=l.length/\∀k,k<i->hasI (l.take k) (nth l k)=false) (fun i=>l.length-i) 0 (by exact⟨Xae _,fun k hk=>absurd hk (Xaq _)⟩) ?_ ?_
 ·exact zll
 ·rintro i ⟨hi,f⟩
  have m:(intE l).length=l.length:=Qc l
  by_cases c:i<l.length
  ·have h:=Vt (l:=l.take i) (x:=nth l i) (by rw[Xah];omega)
   rw[<-Qqd]at h
   repeat'(first|(refine zhm fun hb=>?_;try exact zab)|refine zUtp ?_|refine zg2 ?_ ?_|intro _)
   ·rw[Qoh c (by assumption)]
    exact zrr
   ·refine⟨i+1,⟨by omega,fun k hk=>?_⟩,by omega,?_⟩
    ·by_cases e:k=i
     ·subst e;assumption
     ·exact f k (by omega)
    exact zll
  ·have g:=QfL (t:=t) (l:=l) (by omega) (by omega) hl
   cases a:Z0 t l with
   | false=>
    rw[a]at g
    rw[QqT ht a]
    repeat'(first|(refine zhm fun hb=>?_;try exact zab)|refine zUtp ?_|refine zg2 ?_ ?_|intro _)
    exact zrr
   | true=>
    rw[a]at g
    repeat'(first|(refine zhm fun hb=>?_;try exact zab)|refine zUtp ?_|refine zg2 ?_ ?_|intro _)
    refine zr [] ?_ ?_
    repeat'(first|exact ze3|refine ze2 ?_ ?_|refine ze4 ?_|exact ze5|fail)
    all_goals
     refine zp ?_
     by_cases e:(l.length:Int)=j.nodes
     ·rw[QuI (fun k hk=>f k (by omega)) e a];simp[e]
     ·rw[QpD e];simp[e]
theorem QeM{r:Jn}{j:Job}{l:List Int}(hr:Q6 r)(hl:l.length<=1000000000):zAc 211 [Ws r,jobA j,zL (intE l)] [.d (.b (Qm j&&Z4 r.topo j l))] []:=by
 refine zAC func211 fun w0 Z=>?_
 have q:=hr.topo.len
 have p:=hr.topo.nlen
 have c1:=Qdl hr
 have f:=Qe6 (j:=j)
 have g:=Qce (t:=r.topo) (l:=l) (by omega) (by omega) hl
 cases h:Qm j with
 | false=>
  rw[h]at f
  repeat'(first|(refine zhm fun hb=>?_;try exact zab)|refine zUtp ?_|refine zg2 ?_ ?_|intro _)
  exact zrr
 | true=>
  rw[h]at f
  by_cases e:(l.length:Int)=j.nodes
  ·cases a:Z0 r.topo l with
   | false=>
    rw[a]at g
    rw[QqT hr.topo a]
    repeat'(first|(refine zhm fun hb=>?_;try exact zab)|refine zUtp ?_|refine zg2 ?_ ?_|intro _)
    any_goals
     refine zr [] ?_ ?_
     repeat'(first|exact ze3|refine ze2 ?_ ?_|refine ze4 ?_|exact ze5|fail)
     all_goals exact zp rfl
   | true=>
    rw[a]at g
    repeat'(first|(refine zhm fun hb=>?_;try exact zab)|refine zUtp ?_|refine zg2 ?_ ?_|intro _)
    refine Qa (fun(i:Nat)=>⟨44,[(2,zL (intE l)),(31,zL (intE l)),(32,zI (l.length:Nat)),(33,zI i)],[]⟩) (fun i=>i<=l.length/\∀k,k<i->hasI (l.take k) (nth l k)=false) (fun i=>l.length-i) 0 (by exact⟨Xae _,fun k hk=>absurd hk (Xaq _)⟩) ?_ ?_
    ·exact zll
    ·rintro i ⟨hi,m⟩
     have o:(intE l).length=l.length:=Qc l
     by_cases c:i<l.length
     ·have n:=WX (l:=l.take i) (x:=nth l i) (by rw[Xah];omega)
      rw[<-Qqd]at n
      repeat'(first|(refine zhm fun hb=>?_;try exact zab)|refine zUtp ?_|refine zg2 ?_ ?_|intro _)
      ·rw[Qoh c (by assumption)]
       exact zrr
      ·refine⟨i+1,⟨by omega,fun k hk=>?_⟩,by omega,?_⟩
       ·by_cases e:k=i
        ·subst e;assumption
        ·exact m k (by omega)
       exact zll
     ·rw[QuI (fun k hk=>m k (by omega)) e a]
      repeat'(first|(refine zhm fun hb=>?_;try exact zab)|refine zUtp ?_|refine zg2 ?_ ?_|intro _)
      exact zrr
  ·rw[QpD e]
   repeat'(first|(refine zhm fun hb=>?_;try exact zab)|refine zUtp ?_|refine zg2 ?_ ?_|intro _)
   any_goals
    refine zr [] ?_ ?_
    repeat'(first|exact ze3|refine ze2 ?_ ?_|refine ze4 ?_|exact ze5|fail)
    all_goals exact zp rfl

theorem Qny{l:List Int}(h:l.length<=1000000000):DC Tryz.prog 109 [zL (intE l)] [zL (intE l)]:=by
 refine zMC func109 fun w0 Z O=>?_
 have hl:=Qc l
 repeat'(first|(refine zhm fun hb=>?_;try exact zab)|refine zUro ?_|refine zg2 ?_ ?_|intro _)
 show AWp _ _ _ _
 refine Qp 4 rfl ?_
 exact zDR
theorem QcB{l:List Pt}(h:l.length<=1000000000):DC Tryz.prog 293 [Qah l] [Qah l]:=by
 refine zMC func293 fun w0 Z O=>?_
 have hl:=JN l
 repeat'(first|(refine zhm fun hb=>?_;try exact zab)|refine zUro ?_|refine zg2 ?_ ?_|intro _)
 show AWp _ _ _ _
 refine Qp 5 rfl ?_
 exact zDR
theorem WZ{l:List Pt}(h:l.length<=1000000000):DC Tryz.prog 302 [Qah l] [Qah l]:=by
 refine zMC func302 fun w0 Z O=>?_
 have hl:=JN l
 repeat'(first|(refine zhm fun hb=>?_;try exact zab)|refine zUro ?_|refine zg2 ?_ ?_|intro _)
 show AWp _ _ _ _
 refine Qp 3 rfl ?_
 exact zDR
theorem XS{t:QX}(h1:t.parents.length<=1000000000)(h2:t.nodes.length<=1000000000):DC Tryz.prog 108 [YW t] [YW t]:=by
 refine zMC func108 fun w0 Z O=>?_
 have hl:=Qw t.nodes
 repeat'(first|(refine zhm fun hb=>?_;try exact zab)|refine Qyk ?_|(apply zch;exact zcg)|exact zhk|refine zg3 ?_ ?_|refine kmu (Qny (l:=t.parents) h1) ?_|intro _)
 show AWp _ _ _ _
 refine Qp 8 rfl ?_
 exact zDR
def slN(n:Nat)(es:List (List D)):AV:=match es with
 | []=>.nil
 | _::_=>.row n
def slO(n:Nat)(e:TypeId)(es:List (List D)):List (Nat×AO):=match es with
 | []=>[]
 | _::_=>[(n,.row e es false)]
theorem Wd(l:List (List Pt))(p:List Pt):Q7 l++[[.sl (ptE p)]]=Q7 (l++[p]):=by simp[Q7]
theorem QfO{r:Jn}(h:Q6 r)(h0:0<r.profs.length):MCalls Tryz.prog 252 [Ws r] [] (fun _:Unit=>True) (fun _=>[.agg [zL (intE r.topo.parents),zL (Qr r.topo.nodes),zL (Qk r.up),.row 0,zL (ptE r.lics)]]) (fun _=>[]) (fun _=>[(0,.row 178 (Q7 r.profs) false)]):=by
 refine zMC func252 fun w0 Z O=>?_
 have hs:=h.small
 have i:=Qq r.up
 have o:=Qw r.topo.nodes
 have s:=QB r.profs
 have j:=Qc r.topo.parents
 repeat'(first|(refine zhm fun hb=>?_;try exact zab)|(refine Qi 2 11 rfl ?_)|refine Qd ?_|(apply zch;exact zcg)|exact zhk|refine zg3 ?_ ?_|refine kmu (XS (t:=r.topo) (by omega) (by omega)) ?_|refine kmu (QcB (l:=r.lics) (by omega)) ?_|intro _)
 refine Qa (fun(k:Nat×List (List Pt))=>⟨32,[(2,.ptr 2 0),(3,.ptr 3 0),(17,zL (Q7 r.profs)),(18,zI (r.profs.length:Nat)),(19,zI k.1)],[(2,.box 180 [.nil,.nil,.nil,.nil,.nil]),(3,.box 180 [zL (intE r.topo.parents),zL (Qr r.topo.nodes),zL (Qk r.up),slN 28 (Q7 k.2),zL (ptE r.lics)])]++slO 28 178 (Q7 k.2)⟩) (fun k=>k.1<=r.profs.length/\k.2=r.profs.take k.1) (fun k=>r.profs.length-k.1) (0,[]) (by exact⟨Xae _,rfl⟩) ?_ ?_
 ·exact zll
 ·rintro ⟨n,a⟩ ⟨m,e⟩
  dsimp only at m e ⊢
  have p:a.length=n:=by rw[e,Xah];omega
  have f:=QB a
  by_cases d:n<r.profs.length
  ·have q:=h.profs n d
   have g:=q.len
   have c:=QF d
   rw[<-e]at c
   cases a with
   | nil=>
    repeat'(first|(refine zhm fun hb=>?_;try exact zab)|refine Qd ?_|(apply zch;exact zcg)|exact zhk|refine zg3 ?_ ?_|refine kmu (QcB (l:=nth r.profs n) (by omega)) ?_|intro _)
    refine⟨(n+1,[]++[nth r.profs n]),⟨by omega,c.symm⟩,by omega,?_⟩
    exact zll
   | cons p0 o0=>
    repeat'(first|(refine zhm fun hb=>?_;try exact zab)|refine Qd ?_|(apply zch;exact zcg)|exact zhk|refine zg3 ?_ ?_|refine kmu (QcB (l:=nth r.profs n) (by omega)) ?_|intro _)
    refine⟨(n+1,(p0::o0)++[nth r.profs n]),⟨by omega,c.symm⟩,by omega,?_⟩
    refine zag ?_;exact zp (Wd (p0::o0) _)
  ·have b:a=r.profs:=by rw[e,Xay (by omega)]
   cases a with
   | nil=>rw[<-b]at h0;cases h0
   | cons p0 o0=>
    repeat'(first|(refine zhm fun hb=>?_;try exact zab)|refine Q2 ?_|(apply zch;exact zcg)|exact zhk|refine zg3 ?_ ?_|intro _)
    show AWp _ _ _ _
    refine QA ?_
    apply Qs
    refine zm () [28] trivial ?_ ?_ ?_
    repeat'(first|exact ze3|refine ze2 ?_ ?_|refine ze4 ?_|exact ze5|fail)
    all_goals exact zp (by first|rfl|rw[b])
theorem QeR{r:Jn}(h:Q6 r)(h0:0<r.profs.length):MCalls Tryz.prog 271 [Ws r] [] (fun _:Unit=>True) (fun _=>[.agg [zL (intE r.topo.parents),zL (Qr r.topo.nodes),zL (Qk r.up),.row 0,zL (ptE r.lics)]]) (fun _=>[]) (fun _=>[(0,.row 178 (Q7 r.profs) false)]):=by
 refine zMC func271 fun w0 Z O=>?_
 have hs:=h.small
 have i:=Qq r.up
 have o:=Qw r.topo.nodes
 have s:=QB r.profs
 have j:=Qc r.topo.parents
 repeat'(first|(refine zhm fun hb=>?_;try exact zab)|(refine Qi 3 6 rfl ?_)|(refine Qi 3 14 rfl ?_)|(refine Qi 3 19 rfl ?_)|refine Qd ?_|(apply zch;exact zcg)|exact zhk|refine zg3 ?_ ?_|refine kmu (WZ (l:=r.lics) (by omega)) ?_|intro _)
 refine Qa (fun(k:Nat×List (List Pt))=>⟨42,[(2,.ptr 2 0),(3,.ptr 3 0),(27,zL (Q7 r.profs)),(28,zI (r.profs.length:Nat)),(29,zI k.1)],[(2,.box 180 [.nil,.nil,.nil,.nil,.nil]),(3,.box 180 [zL (intE r.topo.parents),zL (Qr r.topo.nodes),zL (Qk r.up),slN 38 (Q7 k.2),zL (ptE r.lics)])]++slO 38 178 (Q7 k.2)⟩) (fun k=>k.1<=r.profs.length/\k.2=r.profs.take k.1) (fun k=>r.profs.length-k.1) (0,[]) (by exact⟨Xae _,rfl⟩) ?_ ?_
 ·exact zll
 ·rintro ⟨n,a⟩ ⟨m,e⟩
  dsimp only at m e ⊢
  have p:a.length=n:=by rw[e,Xah];omega
  have f:=QB a
  by_cases d:n<r.profs.length
  ·have q:=h.profs n d
   have g:=q.len
   have c:=QF d
   rw[<-e]at c
   cases a with
   | nil=>
    repeat'(first|(refine zhm fun hb=>?_;try exact zab)|refine Qd ?_|(apply zch;exact zcg)|exact zhk|refine zg3 ?_ ?_|refine kmu (WZ (l:=nth r.profs n) (by omega)) ?_|intro _)
    refine⟨(n+1,[]++[nth r.profs n]),⟨by omega,c.symm⟩,by omega,?_⟩
    exact zll
   | cons p0 o0=>
    repeat'(first|(refine zhm fun hb=>?_;try exact zab)|refine Qd ?_|(apply zch;exact zcg)|exact zhk|refine zg3 ?_ ?_|refine kmu (WZ (l:=nth r.profs n) (by omega)) ?_|intro _)
    refine⟨(n+1,(p0::o0)++[nth r.profs n]),⟨by omega,c.symm⟩,by omega,?_⟩
    refine zag ?_;exact zp (Wd (p0::o0) _)
  ·have b:a=r.profs:=by rw[e,Xay (by omega)]
   cases a with
   | nil=>rw[<-b]at h0;cases h0
   | cons p0 o0=>
    repeat'(first|(refine zhm fun hb=>?_;try exact zab)|refine Q2 ?_|(apply zch;exact zcg)|exact zhk|refine zg3 ?_ ?_|intro _)
    show AWp _ _ _ _
    refine QA ?_
    apply Qs
    refine zm () [38] trivial ?_ ?_ ?_
    repeat'(first|exact ze3|refine ze2 ?_ ?_|refine ze4 ?_|exact ze5|fail)
    all_goals exact zp (by first|rfl|rw[b])

def VK(l:List Pt)(a b:Int):V3:=l.foldl (fun v x=>if a<=x.at'/\x.at'<b then minO v x.free else v) (QN l a)
def Xz(l:List Pt)(a b:Int)(v0:V3):V3:=l.foldl (fun v x=>if a<=x.at'/\x.at'<b then minO v x.free else v) v0
theorem VN{l:List Pt}{i:Nat}(h:i<l.length)(a b:Int)(v0:V3):Xz (l.take (i+1)) a b v0=if a<=(nth l i).at'/\(nth l i).at'<b then minO (Xz (l.take i) a b v0) (nth l i).free else Xz (l.take i) a b v0:=by
 rw[QF h,Xz,XaN]
 rfl
@[reducible] def minR (ok:Bool) (v:V3):List AV:=[vecA (bif ok then v else zV),.d (.b ok)]
theorem QdO{l:List Pt}{a b:Int}(hl:l.length<=1000000000):zAc 303 [Qah l,zI a,zI b] (minR (JW l&&Vm a b) (VK l a b)) []:=by
 refine zAC func303 fun w0 Z=>?_
 have g:(ptE l).length=l.length:=JN l
 cases c:(JW l&&Vm a b) with
 | false=>
  have e:=QbK hl
  cases f:JW l with
  | false=>
   rw[f]at e
   repeat'(first|(refine zhm fun hb=>?_;try exact zab)|refine zUtp ?_|refine zg2 ?_ ?_|intro _)
   exact zrr
  | true=>
   rw[f]at e
   rw[f,XbD]at c
   have j:¬((0<=a/\a<=1000000000)/\(0<=b/\b<=1000000000)/\a<b):=fun h=>by rw[Vc.2 h]at c;cases c
   repeat'(first|(refine zhm fun hb=>?_;try exact zab)|refine zUtp ?_|refine zg2 ?_ ?_|refine kc (Wh (x:=a)) rfl rfl ?_|refine kc (Wh (x:=b)) rfl rfl ?_|intro _)
   all_goals
    exact zrr
 | true=>
  rw[Xac]at c
  have e:=QbK hl
  rw[c.1]at e
  obtain⟨h1,h2,h3⟩:=Vc.1 c.2
  repeat'(first|(refine zhm fun hb=>?_;try exact zab)|refine zUtp ?_|refine zg2 ?_ ?_|refine kc (Wh (x:=a)) rfl rfl ?_|refine kc (Wh (x:=b)) rfl rfl ?_|refine kc (QeW hl) rfl rfl ?_|intro _)
  refine Qa (fun(i:Nat)=>⟨56,[(1,zI a),(2,zI b),(6,.ptr 6 0),(8,.ptr 8 0),(34,zL (ptE l)),(35,zI (l.length:Nat)),(36,zI i)],[(6,.box 29 (vecC zV)),(8,.box 29 (vecC (Xz (l.take i) a b (QN l a))))]⟩) (fun i=>i<=l.length) (fun i=>l.length-i) 0 (by exact Xae _) ?_ ?_
  ·exact zll
  ·intro i hi
   repeat'(first|(refine zhm fun hb=>?_;try exact zab)|refine zUtp ?_|refine zg2 ?_ ?_|refine kc (Qto (a:=Xz (l.take i) a b (QN l a)) (b:=(nth l i).free)) rfl rfl ?_|intro _)
   ·refine⟨i+1,by omega,by omega,?_⟩
    refine⟨rfl,?_,?_,rfl⟩
    repeat'(first|exact ze3|refine ze2 ?_ ?_|refine ze4 ?_|exact ze5|fail)
    all_goals exact zp (by first|rfl|(rw[VN (by omega),if_pos ⟨by assumption,by assumption⟩]))
   ·refine⟨i+1,by omega,by omega,?_⟩
    refine⟨rfl,?_,?_,rfl⟩
    repeat'(first|exact ze3|refine ze2 ?_ ?_|refine ze4 ?_|exact ze5|fail)
    all_goals exact zp (by first|rfl|(rw[VN (by omega),if_neg (by omega)]))
   ·refine⟨i+1,by omega,by omega,?_⟩
    refine⟨rfl,?_,?_,rfl⟩
    repeat'(first|exact ze3|refine ze2 ?_ ?_|refine ze4 ?_|exact ze5|fail)
    all_goals exact zp (by first|rfl|(rw[VN (by omega),if_neg (by omega)]))
   ·rw[show VK l a b=Xz (l.take i) a b (QN l a) by rw[Xay (by omega)];rfl]
    exact zrr
@[reducible] def resP (o:Option (List Pt)):List AV:=[Qah (o.getD []),.d (.b o.isSome)]
theorem QjG(L:List Int):((intE (cmpZ L)).take (cmpL L).length).drop 0=intE (cmpL L):=by
 rw[XbO,QpY,cmpZ,Xcb]
theorem QlX(l:List Pt)(p:Pt):ptE l++[[.n .i64 p.at',.n .i64 p.free.a,.n .i64 p.free.b,.n .i64 p.free.c]]=ptE (l++[p]):=by simp[ptE]
theorem QmN{l:List Pt}{i:Nat}(h:i<l.length)(xs:List Int):intE (xs++atsI (l.take i))++[[.n .i64 (nth l i).at']]=intE (xs++atsI (l.take (i+1))):=by
 rw[JG,QF h]
 simp[atsI]
def pts0(out:List Pt):AV:=match out with
 | []=>.nil
 | _::_=>.row 89
def ob0(out:List Pt):List (Nat×AO):=match out with
 | []=>[]
 | _::_=>[(89,.row 282 (ptE out) true)]
theorem XP{l:List Pt}{a b:Int}{by':V3->Option V3}{ts:List Int}{i:Nat}{out:List Pt}(h:i<ts.length)(hv:chgV l a b by' (nth ts i)=none):W6 l a b by' (ts.drop i) out=none:=by
 rw[Xa8 h,<-Jd h,W6,hv]
theorem X9{l:List Pt}{a b:Int}{by':V3->Option V3}{ts:List Int}{i:Nat}{out:List Pt}{v:V3}(h:i<ts.length)(hv:chgV l a b by' (nth ts i)=some v):W6 l a b by' (ts.drop i) out=W6 l a b by' (ts.drop (i+1)) (VT out (nth ts i) v):=by
 rw[Xa8 h,<-Jd h,W6,hv]
theorem Xk{l:List Pt}{a b:Int}{by':V3->Option V3}{t:Int}(h:a<=t/\t<b):chgV l a b by' t=by' (QN l t):=if_pos h
theorem V1{l:List Pt}{a b:Int}{by':V3->Option V3}{t:Int}(h:¬(a<=t/\t<b)):chgV l a b by' t=some (QN l t):=if_neg h
theorem Qdh{o:Option V3}(h:o.isSome=false):o=none:=by cases o with|none=>rfl|some v=>simp at h
theorem Qdd{o:Option V3}(h:o.isSome=true):o=some (o.getD zV):=by cases o with|none=>simp at h|some v=>rfl
theorem Qo3{l:List Pt}{a b:Int}{g:FuncId}{ds:List D}{by':V3->Option V3}(hp:Jx l)(hby:∀v,Qh v=true->zAc g [vecA v,.pd ds 0] (resV (by' v)) []) :
  DC Tryz.prog 255 [Qah l,zI a,zI b,.clo g [.pd ds 0]] (resP (chgP l a b by')):=by
 refine zMC func255 fun w0 Z O=>?_
 have hl:=hp.len
 have ad:(ptE l).length=l.length:=JN l
 repeat'(first|(refine zhm fun hb=>?_;try exact zab)|refine Qd ?_|(apply zch;exact zcg)|exact zhk|refine zg3 ?_ ?_|intro _)
 refine Qa (fun(i:Nat)=>⟨98,[(1,zI a),(2,zI b),(3,.clo g [.pd ds 0]),(4,.ptr 4 0),(8,.ptr 8 0),(10,.row 22),(24,zL (ptE l)),(25,zI (l.length:Nat)),(26,zI i)],[(4,.box 178 (Qhw l)),(8,.box 178 [.nil]),(22,.row 3 (intE ([a,b]++atsI (l.take i))) true)]⟩) (fun i=>i<=l.length) (fun i=>l.length-i) 0 (by exact Xae _) ?_ ?_
 ·exact zll
 ·intro i r
  have o:([a,b]++atsI (l.take i)).length=i+2:=by simp[atsI];omega
  have aa:(intE ([a,b]++atsI (l.take i))).length=i+2:=by rw[Qc];exact o
  by_cases u:i<l.length
  ·repeat'(first|(refine zhm fun hb=>?_;try exact zab)|refine Qd ?_|(apply zch;exact zcg)|exact zhk|refine zg3 ?_ ?_|intro _)
   ·refine⟨i+1,by omega,by omega,?_⟩
    refine zag ?_;exact zp (QmN u _)
  ·rw[show l.take i=l from Xay (by omega)]
   have p:([a,b]++atsI l).length<=1000000000:=by simp[atsI];omega
   have q:(srtI ([a,b]++atsI l)).length<=1000000000:=by rw[Yj];exact p
   repeat'(first|(refine zhm fun hb=>?_;try exact zab)|refine Qd ?_|(apply zch;exact zcg)|exact zhk|refine zg3 ?_ ?_|(refine km [22] (Qqj (d:=true) p) rfl rfl (fun i r=>?_);try dsimp only at r)|(refine km [22] (Qis q) rfl rfl (fun i r=>?_);try dsimp only at r)|intro _)
   refine Qp 22 rfl ?_
   have m:Jy l a b=QP l a b:=Qsi hp a b
   have ae:(Jy l a b).length<=202:=by
    refine Xam (QqH _) ?_
    rw[Yj];simp[atsI];omega
   refine Qa (fun(k:Nat×List Pt)=>⟨98,[(1,zI a),(2,zI b),(3,.clo g [.pd ds 0]),(4,.ptr 4 0),(8,.ptr 8 0),(13,.ptr 13 0),(40,zL (intE (Jy l a b))),(41,zI ((Jy l a b).length:Nat)),(42,zI k.1)],[(4,.box 178 (Qhw l)),(8,.box 178 [.nil]),(13,.box 178 [pts0 k.2])]++ob0 k.2⟩)
    (fun k=>k.1<=(Jy l a b).length/\k.2.length<=k.1/\W6 l a b by' ((Jy l a b).drop k.1) k.2=W6 l a b by' (Jy l a b) []) (fun k=>(Jy l a b).length-k.1) (0,[]) (by exact⟨Xae _,Xaj _,rfl⟩) ?_ ?_
   ·refine⟨rfl,?_,?_,rfl⟩
    repeat'(first|exact ze3|refine ze2 ?_ ?_|refine ze4 ?_|exact ze5|fail)
    all_goals first|exact zp rfl|exact zp (QjG _)|skip
   ·rintro ⟨n,c⟩ ⟨hn,s,e⟩
    dsimp only at hn s e ⊢
    have af:(intE (Jy l a b)).length=(Jy l a b).length:=Qc _
    have ac:(ptE c).length=c.length:=JN c
    by_cases f:n<(Jy l a b).length
    ·cases c with
     | nil=>
      repeat'(first|(refine zhm fun hb=>?_;try exact zab)|(refine Qdz 56 (fun v:V3=>⟨98,[(1,zI a),(2,zI b),(3,.clo g [.pd ds 0]),(4,.ptr 4 0),(8,.ptr 8 0),(13,.ptr 13 0),(15,zI (nth (Jy l a b) n)),(16,.ptr 16 0),(40,zL (intE (Jy l a b))),(41,zI ((Jy l a b).length:Nat)),(42,zI n)],[(4,.box 178 (Qhw l)),(8,.box 178 [.nil]),(13,.box 178 [pts0 ([])]),(16,.box 29 (vecC v))]++ob0 ([])⟩) (fun v=>chgV l a b by' (nth (Jy l a b) n)=some v) ?_ ?_)|refine QsV ?_|(apply zch;exact zcg)|refine zpp fun w0 Z O=>?_|exact zhk|refine zg3 ?_ ?_|refine zln fun _=>?_|refine zop ?_|refine kc (Qiq (l:=l) (by omega)) rfl rfl ?_|refine kv (hby _ (Wa hp (nth (Jy l a b) n))) rfl rfl rfl rfl rfl ?_|refine kq (Qiq (l:=l) (by omega)) rfl rfl ?_|fail)
      ·rw[show chgP l a b by'=none by rw[chgP,<-m,<-e,XP f (by rw[Xk ⟨by assumption,by assumption⟩];exact Qdh (by assumption))];rfl]
       exact zDR
      ·refine⟨(by' (QN l (nth (Jy l a b) n))).getD zV,by rw[Xk ⟨by assumption,by assumption⟩];exact Qdd (by assumption),?_⟩
       exact zll
      ·exact⟨QN l (nth (Jy l a b) n),V1 (by omega),zll⟩
      ·exact⟨QN l (nth (Jy l a b) n),V1 (by omega),zll⟩
      intro v x
      rw[X9 f x]at e
      repeat'(first|(refine zhm fun hb=>?_;try exact zab)|refine Qd ?_|(apply zch;exact zcg)|exact zhk|refine zg3 ?_ ?_|intro _)
      refine⟨(n+1,VT [] (nth (Jy l a b) n) v),⟨by omega,by dsimp only;exact Xam (V0 _ _ _) (Xcv s),e⟩,by omega,?_⟩
      exact zll
     | cons p0 o0=>
      have z:0<(p0::o0).length:=Xcq _
      repeat'(first|(refine zhm fun hb=>?_;try exact zab)|(refine Qdz 56 (fun v:V3=>⟨98,[(1,zI a),(2,zI b),(3,.clo g [.pd ds 0]),(4,.ptr 4 0),(8,.ptr 8 0),(13,.ptr 13 0),(15,zI (nth (Jy l a b) n)),(16,.ptr 16 0),(40,zL (intE (Jy l a b))),(41,zI ((Jy l a b).length:Nat)),(42,zI n)],[(4,.box 178 (Qhw l)),(8,.box 178 [.nil]),(13,.box 178 [pts0 (p0::o0)]),(16,.box 29 (vecC v))]++ob0 (p0::o0)⟩) (fun v=>chgV l a b by' (nth (Jy l a b) n)=some v) ?_ ?_)|refine QsV ?_|(apply zch;exact zcg)|refine zpp fun w0 Z O=>?_|exact zhk|refine zg3 ?_ ?_|refine zln fun _=>?_|refine zop ?_|refine kc (Qiq (l:=l) (by omega)) rfl rfl ?_|refine kv (hby _ (Wa hp (nth (Jy l a b) n))) rfl rfl rfl rfl rfl ?_|refine kq (Qiq (l:=l) (by omega)) rfl rfl ?_|fail)
      ·rw[show chgP l a b by'=none by rw[chgP,<-m,<-e,XP f (by rw[Xk ⟨by assumption,by assumption⟩];exact Qdh (by assumption))];rfl]
       exact zDR
      ·refine⟨(by' (QN l (nth (Jy l a b) n))).getD zV,by rw[Xk ⟨by assumption,by assumption⟩];exact Qdd (by assumption),?_⟩
       exact zll
      ·exact⟨QN l (nth (Jy l a b) n),V1 (by omega),zll⟩
      ·exact⟨QN l (nth (Jy l a b) n),V1 (by omega),zll⟩
      intro v x
      rw[X9 f x]at e
      repeat'(first|(refine zhm fun hb=>?_;try exact zab)|refine Qd ?_|(apply zch;exact zcg)|exact zhk|refine zg3 ?_ ?_|intro _)
      ·have w:(nth (p0::o0) ((p0::o0).length-1)).free≠v:=Qd1.1 (by assumption)
       have j:VT (p0::o0) (nth (Jy l a b) n) v=(p0::o0)++[⟨nth (Jy l a b) n,v⟩]:=if_pos (.inr w)
       rw[j]at e
       refine⟨(n+1,(p0::o0)++[⟨nth (Jy l a b) n,v⟩]),⟨by omega,by dsimp only;rw[Xab];exact Xcv s,e⟩,by omega,?_⟩
       refine zag ?_;exact zp (QlX (p0::o0) ⟨nth (Jy l a b) n,v⟩)
      ·have j:VT (p0::o0) (nth (Jy l a b) n) v=p0::o0:=if_neg (not_or.2 ⟨by simp,fun h=>h (Qfr.1 (by assumption))⟩)
       rw[j]at e
       refine⟨(n+1,p0::o0),⟨by omega,Nat.le_succ_of_le s,e⟩,by omega,?_⟩
       exact zll
    ·rw[Xbb (by omega)]at e
     have t:chgP l a b by'=if c.length<=200 then some c else none:=by rw[chgP,<-m,<-e];rfl
     rw[t]
     cases c with
     | nil=>
      repeat'(first|(refine zhm fun hb=>?_;try exact zab)|refine Q2 ?_|(apply zch;exact zcg)|exact zhk|refine zg3 ?_ ?_|intro _)
      exact zDR
     | cons p0 o0=>
      by_cases y:(p0::o0).length<=200
      ·rw[if_pos y]
       repeat'(first|(refine zhm fun hb=>?_;try exact zab)|refine Q2 ?_|(apply zch;exact zcg)|exact zhk|refine zg3 ?_ ?_|intro _)
       show AWp _ _ _ _
       refine Qp 89 rfl ?_
       exact zDR
      ·rw[if_neg y]
       repeat'(first|(refine zhm fun hb=>?_;try exact zab)|refine Q2 ?_|(apply zch;exact zcg)|exact zhk|refine zg3 ?_ ?_|intro _)
       exact zDR
theorem Qpg{v x:V3}(hv:Qh v=true)(hx:Qh x=true):zAc 256 [vecA x,.pd [.n .i64 v.a,.n .i64 v.b,.n .i64 v.c] 0] (resV (subO x v)) []:=by
 refine zAC func256 fun w0 Z=>?_
 repeat'(first|(refine zhm fun hb=>?_;try exact zab)|refine zUto ?_|refine zg2 ?_ ?_|refine kc (QtX hx hv) rfl rfl ?_|intro _)
 exact zrr

def outK(l:List Pt)(a b:Int):Nat->List Int
 | 0=>atsI l
 | 1=>insI a false (atsI l)
 | _+2=>QP l a b
theorem QxN{l:List Pt}{a b:Int}{k:Nat}(h:k<2):outK l a b (k+1)=insI (nth [a,b] k) false (outK l a b k):=by
 match k,h with
 | 0,_=>rfl
 | 1,_=>rfl
theorem Qt7(l:List Pt)(a b:Int)(k:Nat):(outK l a b k).length<=l.length+2:=by
 have h3:(atsI l).length=l.length:=by simp[atsI]
 match k with
 | 0=>show(atsI l).length<=_;omega
 | 1=>have:=(Qc1 (t:=a) (l:=atsI l)).1;show(insI a false (atsI l)).length<=_;omega
 | _+2=>exact Qby
structure InsP (t:Int) (L:List Int) (i:Nat) (dn:Bool) (pre:List Int):Prop where
 le:i<=L.length
 len:pre.length<=i+1
 len2:dn=false->pre.length<=i
 eq:pre++insI t dn (L.drop i)=insI t false L
theorem QrS{t:Int}{L:List Int}{i:Nat}{dn:Bool}{pre:List Int}(h:InsP t L i dn pre)(hi:i<L.length) :
  InsP t L (i+1) (dn||decide (t<=nth L i)) (pre++((if dn=false/\t<=nth L i then[t] else[])++(if nth L i≠t then[nth L i] else[]))):=by
 refine⟨by omega,?_,?_,?_⟩
 ·have h1:=h.len
  have b:=h.len2
  rw[Xab,Xab]
  by_cases a:dn=false/\t<=nth L i
  ·have:=b a.1
   rw[if_pos a]
   split <;> simp only[Xap,XaS] <;> omega
  ·rw[if_neg a]
   split <;> simp only[Xap,XaS] <;> omega
 ·intro c
  have b:=h.len2
  simp only[Bool.or_eq_false_iff,decide_eq_false_iff_not]at c
  have:=b c.1
  rw[Xab,Xab,if_neg (fun a=>c.2 a.2)]
  split <;> simp only[Xap,XaS] <;> omega
 ·rw[<-h.eq,VW hi]
  simp only[insI,Xao]
theorem Qvx{t:Int}{L:List Int}{i:Nat}{dn:Bool}{pre:List Int}(h:InsP t L i dn pre)(hi:¬i<L.length):insI t false L=pre++(if dn=true then[] else[t]):=by
 rw[<-h.eq,Xbb (by omega)]
 cases dn <;> rfl
theorem Qna{l:List Pt}{a b:Int}(hl:l.length<=1000000):DC Tryz.prog 342 [Qah l,zI a,zI b] [zL (intE (QP l a b))]:=by
 refine zMC func342 fun w0 Z O=>?_
 have ac:(ptE l).length=l.length:=JN l
 repeat'(first|(refine zhm fun hb=>?_;try exact zab)|refine zUtp ?_|refine zg2 ?_ ?_|intro _)
 refine Qa (fun(i:Nat)=>⟨73,[(1,zI a),(2,zI b),(7,.row 16),(18,zL (ptE l)),(19,zI (l.length:Nat)),(20,zI i)],[(16,.row 3 (intE (atsI (l.take i))) true)]⟩) (fun i=>i<=l.length) (fun i=>l.length-i) 0 (by exact Xae _) ?_ ?_
 ·exact zll
 ·intro i o
  have m:(atsI (l.take i)).length=i:=by simp[atsI];omega
  have z:(intE (atsI (l.take i))).length=i:=by rw[Qc];exact m
  by_cases p:i<l.length
  ·repeat'(first|(refine zhm fun hb=>?_;try exact zab)|refine zUtp ?_|refine zg2 ?_ ?_|intro _)
   ·refine⟨i+1,by omega,by omega,?_⟩
    refine zag ?_;exact zp (QmN (xs:=[]) p)
  ·rw[show l.take i=l from Xay (by omega)]
   repeat'(first|(refine zhm fun hb=>?_;try exact zab)|refine zUtp ?_|refine zg2 ?_ ?_|intro _)
   refine Qp 16 rfl ?_
   refine Qa (fun(k:Nat)=>⟨73,[(7,zL (intE (outK l a b k))),(32,.row 32),(33,zI 2),(34,zI k)],[(32,.row 3 (intE [a,b]) true)]⟩) (fun k=>k<=2) (fun k=>2-k) 0 (by exact Xae _) ?_ ?_
   ·exact zll
   ·intro k hk
    have ab:=Qt7 l a b k
    have y:(intE [a,b]).length=2:=rfl
    have s:([a,b]:List Int).length=2:=rfl
    by_cases q:k<2
    ·repeat'(first|(refine zhm fun hb=>?_;try exact zab)|refine zUtp ?_|refine zg2 ?_ ?_|intro _)
     refine Qa (fun(x:Nat×Bool×List Int)=>⟨73,[(11,zI (nth [a,b] k)),(12,.row 38),(13,.d (.b x.2.1)),(32,.row 32),(33,zI 2),(34,zI k),(39,zL (intE (outK l a b k))),(40,zI ((outK l a b k).length:Nat)),(41,zI x.1)],[(32,.row 3 (intE [a,b]) true),(38,.row 3 (intE x.2.2) true)]⟩) (fun x=>InsP (nth [a,b] k) (outK l a b k) x.1 x.2.1 x.2.2) (fun x=>(outK l a b k).length-x.1) (0,false,[]) (by exact⟨Xae _,Xae _,fun _=>Xae _,rfl⟩) ?_ ?_
     ·exact zll
     ·rintro ⟨i,r,j⟩ h
      dsimp only at h ⊢
      have t:(intE (outK l a b k)).length=(outK l a b k).length:=Qc _
      have v:(intE j).length=j.length:=Qc _
      have aa:=h.len
      have u:=h.le
      by_cases o:i<(outK l a b k).length
      ·have c:=QrS h o
       cases r with
       | false=>
        have w:(intE j++[[D.n .i64 (nth [a,b] k)]]).length=j.length+1:=by simp[intE]
        repeat'(first|(refine zhm fun hb=>?_;try exact zab)|refine zUtp ?_|refine zg2 ?_ ?_|intro _)
        ·have e:nth [a,b] k<=nth (outK l a b k) i:=by assumption
         have g:nth (outK l a b k) i≠nth [a,b] k:=by assumption
         rw[if_pos ⟨rfl,e⟩,if_pos g,decide_eq_true e]at c
         refine⟨(i+1,_,_),c,by dsimp only;omega,?_⟩
         refine⟨rfl,?_,?_,rfl⟩
         repeat'(first|exact ze3|refine ze2 ?_ ?_|refine ze4 ?_|exact ze5|fail)
         all_goals exact zp (by first|rfl|(rw[decide_eq_true e];rfl)|simp[intE])
        ·have e:nth [a,b] k<=nth (outK l a b k) i:=by assumption
         have g:nth (outK l a b k) i=nth [a,b] k:=by assumption
         rw[if_pos ⟨rfl,e⟩,if_neg (not_not_intro g),decide_eq_true e]at c
         refine⟨(i+1,_,_),c,by dsimp only;omega,?_⟩
         refine⟨rfl,?_,?_,rfl⟩
         repeat'(first|exact ze3|refine ze2 ?_ ?_|refine ze4 ?_|exact ze5|fail)
         all_goals exact zp (by first|rfl|(rw[decide_eq_true e];rfl)|simp[intE])
        ·have e:¬nth [a,b] k<=nth (outK l a b k) i:=by assumption
         have g:nth (outK l a b k) i≠nth [a,b] k:=by assumption
         rw[if_neg (fun h=>e h.2),if_pos g,decide_eq_false e]at c
         refine⟨(i+1,_,_),c,by dsimp only;omega,?_⟩
         refine⟨rfl,?_,?_,rfl⟩
         repeat'(first|exact ze3|refine ze2 ?_ ?_|refine ze4 ?_|exact ze5|fail)
         all_goals exact zp (by first|rfl|(rw[decide_eq_false e];rfl)|simp[intE])
       | true=>
        repeat'(first|(refine zhm fun hb=>?_;try exact zab)|refine zUtp ?_|refine zg2 ?_ ?_|intro _)
        ·have g:nth (outK l a b k) i≠nth [a,b] k:=by assumption
         rw[if_neg (fun h=>by cases h.1),if_pos g]at c
         refine⟨(i+1,_,_),c,by dsimp only;omega,?_⟩
         refine zag ?_;exact zp (by simp[intE])
        ·have g:nth (outK l a b k) i=nth [a,b] k:=by assumption
         rw[if_neg (fun h=>by cases h.1),if_neg (not_not_intro g)]at c
         refine⟨(i+1,_,_),c,by dsimp only;omega,?_⟩
         refine zag ?_;exact zp (by simp[intE])
      ·have f:=Qvx h o
       rw[<-QxN q]at f
       cases r with
       | false=>
        repeat'(first|(refine zhm fun hb=>?_;try exact zab)|(refine Qi 24 38 rfl ?_)|refine zUtp ?_|refine zg2 ?_ ?_|intro _)
        refine⟨k+1,by omega,by omega,?_⟩
        refine zag ?_;exact zp (by(rw[f];exact JG _ _))
       | true=>
        repeat'(first|(refine zhm fun hb=>?_;try exact zab)|(refine Qi 24 38 rfl ?_)|refine zUtp ?_|refine zg2 ?_ ?_|intro _)
        refine⟨k+1,by omega,by omega,?_⟩
        refine zag ?_;exact zp (by(rw[f];simp))
    ·obtain rfl:k=2:=by omega
     repeat'(first|(refine zhm fun hb=>?_;try exact zab)|refine zUrp ?_|refine zg2 ?_ ?_|intro _)
     exact zDR

def ptsN(n:Nat)(out:List Pt):AV:=match out with
 | []=>.nil
 | _::_=>.row n
def obN(n:Nat)(out:List Pt):List (Nat×AO):=match out with
 | []=>[]
 | _::_=>[(n,.row 282 (ptE out) true)]
theorem QkK{l:List Pt}{a b:Int}{v:V3}(hp:Jx l)(hs:Vm a b=true):DC Tryz.prog 304 [Qah l,zI a,zI b,vecA v,.d (.b false)] (resP (chgP l a b (fun x=>subO x v))):=by
 refine zMC func304 fun w0 Z O=>?_
 have hl:=hp.len
 have aa:(ptE l).length=l.length:=JN l
 have ab:(QP l a b).length<=202:=by have:=Qby (l:=l) (a:=a) (b:=b);omega
 repeat'(first|(refine zhm fun hb=>?_;try exact zab)|refine Qd ?_|(apply zch;exact zcg)|exact zhk|refine zg3 ?_ ?_|refine kmu (Qna (l:=l) (a:=a) (b:=b) (by omega)) ?_|intro _)
 refine Qa (fun(k:Nat×List Pt)=>⟨85,[(1,zI a),(2,zI b),(4,.d (.b false)),(5,.ptr 5 0),(8,.ptr 8 0),(10,.ptr 10 0),(12,.ptr 12 0),(22,zL (intE (QP l a b))),(23,zI ((QP l a b).length:Nat)),(24,zI k.1)],[(5,.box 178 (Qhw l)),(8,.box 29 (vecC v)),(10,.box 178 [.nil]),(12,.box 178 [ptsN 77 k.2])]++obN 77 k.2⟩)
  (fun k=>k.1<=(QP l a b).length/\k.2.length<=k.1/\W6 l a b (fun x=>subO x v) ((QP l a b).drop k.1) k.2=W6 l a b (fun x=>subO x v) (QP l a b) []) (fun k=>(QP l a b).length-k.1) (0,[]) (by exact⟨Xae _,Xaj _,rfl⟩) ?_ ?_
 ·exact zll
 ·rintro ⟨n,c⟩ ⟨w,o,e⟩
  dsimp only at w o e ⊢
  have ac:(intE (QP l a b)).length=(QP l a b).length:=Qc _
  have z:(ptE c).length=c.length:=JN c
  by_cases f:n<(QP l a b).length
  ·cases c with
   | nil=>
    repeat'(first|(refine zhm fun hb=>?_;try exact zab)|(refine Qdz 38 (fun u:V3=>⟨85,[(1,zI a),(2,zI b),(4,.d (.b false)),(5,.ptr 5 0),(8,.ptr 8 0),(10,.ptr 10 0),(12,.ptr 12 0),(14,zI (nth (QP l a b) n)),(15,.ptr 15 0),(22,zL (intE (QP l a b))),(23,zI ((QP l a b).length:Nat)),(24,zI n)],[(5,.box 178 (Qhw l)),(8,.box 29 (vecC v)),(10,.box 178 [.nil]),(12,.box 178 [ptsN 77 ([])]),(15,.box 29 (vecC u))]++obN 77 ([])⟩) (fun u=>chgV l a b (fun x=>subO x v) (nth (QP l a b) n)=some u) ?_ ?_)|refine QsV ?_|(apply zch;exact zcg)|refine zpp fun w0 Z O=>?_|exact zhk|refine zg3 ?_ ?_|refine zln fun _=>?_|refine zop ?_|refine kc (QeW (l:=l) (by omega)) rfl rfl ?_|refine kc (Qdw (a:=QN l (nth (QP l a b) n)) (b:=v)) rfl rfl ?_|refine kq (QeW (l:=l) (by omega)) rfl rfl ?_|refine kq (Qdw (a:=QN l (nth (QP l a b) n)) (b:=v)) rfl rfl ?_|fail)
    ·rw[show chgP l a b (fun x=>subO x v)=none by rw[chgP,<-e,XP f (by rw[Xk ⟨by assumption,by assumption⟩];exact Qdh (by assumption))];rfl]
     exact zDR
    ·refine⟨(subO (QN l (nth (QP l a b) n)) v).getD zV,by rw[Xk ⟨by assumption,by assumption⟩];exact Qdd (by assumption),?_⟩
     exact zll
    ·exact⟨QN l (nth (QP l a b) n),V1 (by omega),zll⟩
    ·exact⟨QN l (nth (QP l a b) n),V1 (by omega),zll⟩
    intro u s
    rw[X9 f s]at e
    repeat'(first|(refine zhm fun hb=>?_;try exact zab)|refine Qd ?_|(apply zch;exact zcg)|exact zhk|refine zg3 ?_ ?_|intro _)
    refine⟨(n+1,VT [] (nth (QP l a b) n) u),⟨by omega,by dsimp only;exact Xam (V0 _ _ _) (Xcv o),e⟩,by omega,?_⟩
    exact zll
   | cons p0 o0=>
    have t:0<(p0::o0).length:=Xcq _
    repeat'(first|(refine zhm fun hb=>?_;try exact zab)|(refine Qdz 38 (fun u:V3=>⟨85,[(1,zI a),(2,zI b),(4,.d (.b false)),(5,.ptr 5 0),(8,.ptr 8 0),(10,.ptr 10 0),(12,.ptr 12 0),(14,zI (nth (QP l a b) n)),(15,.ptr 15 0),(22,zL (intE (QP l a b))),(23,zI ((QP l a b).length:Nat)),(24,zI n)],[(5,.box 178 (Qhw l)),(8,.box 29 (vecC v)),(10,.box 178 [.nil]),(12,.box 178 [ptsN 77 (p0::o0)]),(15,.box 29 (vecC u))]++obN 77 (p0::o0)⟩) (fun u=>chgV l a b (fun x=>subO x v) (nth (QP l a b) n)=some u) ?_ ?_)|refine QsV ?_|(apply zch;exact zcg)|refine zpp fun w0 Z O=>?_|exact zhk|refine zg3 ?_ ?_|refine zln fun _=>?_|refine zop ?_|refine kc (QeW (l:=l) (by omega)) rfl rfl ?_|refine kc (Qdw (a:=QN l (nth (QP l a b) n)) (b:=v)) rfl rfl ?_|refine kq (QeW (l:=l) (by omega)) rfl rfl ?_|refine kq (Qdw (a:=QN l (nth (QP l a b) n)) (b:=v)) rfl rfl ?_|fail)
    ·rw[show chgP l a b (fun x=>subO x v)=none by rw[chgP,<-e,XP f (by rw[Xk ⟨by assumption,by assumption⟩];exact Qdh (by assumption))];rfl]
     exact zDR
    ·refine⟨(subO (QN l (nth (QP l a b) n)) v).getD zV,by rw[Xk ⟨by assumption,by assumption⟩];exact Qdd (by assumption),?_⟩
     exact zll
    ·exact⟨QN l (nth (QP l a b) n),V1 (by omega),zll⟩
    ·exact⟨QN l (nth (QP l a b) n),V1 (by omega),zll⟩
    intro u s
    rw[X9 f s]at e
    repeat'(first|(refine zhm fun hb=>?_;try exact zab)|refine Qd ?_|(apply zch;exact zcg)|exact zhk|refine zg3 ?_ ?_|intro _)
    ·have q:(nth (p0::o0) ((p0::o0).length-1)).free≠u:=Qd1.1 (by assumption)
     have j:VT (p0::o0) (nth (QP l a b) n) u=(p0::o0)++[⟨nth (QP l a b) n,u⟩]:=if_pos (.inr q)
     rw[j]at e
     refine⟨(n+1,(p0::o0)++[⟨nth (QP l a b) n,u⟩]),⟨by omega,by dsimp only;rw[Xab];exact Xcv o,e⟩,by omega,?_⟩
     refine zag ?_;exact zp (QlX (p0::o0) ⟨nth (QP l a b) n,u⟩)
    ·have j:VT (p0::o0) (nth (QP l a b) n) u=p0::o0:=if_neg (not_or.2 ⟨by simp,fun h=>h (Qfr.1 (by assumption))⟩)
     rw[j]at e
     refine⟨(n+1,p0::o0),⟨by omega,Nat.le_succ_of_le o,e⟩,by omega,?_⟩
     exact zll
  ·rw[Xbb (by omega)]at e
   have g:W6 l a b (fun x=>subO x v) (QP l a b) []=some c:=e.symm
   have y:=Qwc hp hs (fun _ _ _=>Qkh) g
   have r:=QuO hp hs (fun _ _ _=>Qkh) g
   have p:chgP l a b (fun x=>subO x v)=if c.length<=200 then some c else none:=by rw[chgP,g];rfl
   have i:=QbK (l:=c) (by omega)
   rw[r]at i
   rw[p]
   by_cases m:c.length<=200
   ·rw[decide_eq_true m]at i
    rw[if_pos m]
    cases c with
    | nil=>
     repeat'(first|(refine zhm fun hb=>?_;try exact zab)|refine Q2 ?_|(apply zch;exact zcg)|exact zhk|refine zg3 ?_ ?_|intro _)
     exact zDR
    | cons p0 o0=>
     repeat'(first|(refine zhm fun hb=>?_;try exact zab)|refine Q2 ?_|(apply zch;exact zcg)|exact zhk|refine zg3 ?_ ?_|intro _)
     show AWp _ _ _ _
     refine Qp 77 rfl ?_
     exact zDR
   ·rw[decide_eq_false m]at i
    rw[if_neg m]
    cases c with
    | nil=>
     repeat'(first|(refine zhm fun hb=>?_;try exact zab)|refine Q2 ?_|(apply zch;exact zcg)|exact zhk|refine zg3 ?_ ?_|intro _)
     exact zDR
    | cons p0 o0=>
     repeat'(first|(refine zhm fun hb=>?_;try exact zab)|refine Q2 ?_|(apply zch;exact zcg)|exact zhk|refine zg3 ?_ ?_|intro _)
     exact zDR

theorem Qfe{l:List Pt}{a b:Int}{v:V3}(h:JW l=false\/Vm a b=false\/Qh v=false):Vo l a b v=none:=by
 unfold Vo
 rw[if_neg]
 rcases h with h|h|h <;> simp[h]
theorem Qo6{l:List Pt}{a b:Int}{v:V3}(h1:JW l=true)(h2:Vm a b=true)(h3:Qh v=true):Vo l a b v=chgP l a b (fun x=>subO x v):=by
 unfold Vo
 rw[if_pos]
 simp[h1,h2,h3]
theorem X1{l:List Pt}{a b:Int}{v:V3}(hl:l.length<=1000000000):DC Tryz.prog 197 [Qah l,zI a,zI b,vecA v] (resP (Vo l a b v)):=by
 refine zMC func197 fun w0 Z O=>?_
 have h:=Qhy hl
 have j:=QtJ (a:=a) (b:=b)
 have k:=Yu (v:=v)
 cases d:JW l with
 | false=>
  rw[d]at h
  rw[Qfe (.inl d)]
  repeat'(first|(refine zhm fun hb=>?_;try exact zab)|refine zUro ?_|refine zg2 ?_ ?_|intro _)
  exact zDR
 | true=>
  rw[d]at h
  cases f:Vm a b with
  | false=>
   rw[f]at j
   rw[Qfe (.inr (.inl f))]
   repeat'(first|(refine zhm fun hb=>?_;try exact zab)|refine zUro ?_|refine zg2 ?_ ?_|intro _)
   exact zDR
  | true=>
   rw[f]at j
   cases e:Qh v with
   | false=>
    rw[e]at k
    rw[Qfe (.inr (.inr e))]
    repeat'(first|(refine zhm fun hb=>?_;try exact zab)|refine zUro ?_|refine zg2 ?_ ?_|intro _)
    exact zDR
   | true=>
    rw[e]at k
    rw[Qo6 d f e]
    have m:=Qo3 (a:=a) (b:=b) (g:=256) (ds:=[.n .i64 v.a,.n .i64 v.b,.n .i64 v.c]) (by':=fun x=>subO x v) (JE.1 d) (fun x hx=>Qpg e hx)
    repeat'(first|(refine zhm fun hb=>?_;try exact zab)|refine zUr ?_|refine zg2 ?_ ?_|(apply YV;first|refine zom ?_|(refine Qsc 7 rfl rfl ?_;refine QlP [] m rfl rfl rfl rfl rfl (fun _ _=>rfl) rfl (fun i hi=>?_)))|refine zop ?_|refine zqj h ?_|refine zqj j ?_|refine zqj k ?_|fail)
    exact zDR
theorem QfB{l:List Pt}{a b:Int}{v:V3}(hl:l.length<=1000000000):DC Tryz.prog 272 [Qah l,zI a,zI b,vecA v] (resP (Vo l a b v)):=by
 refine zMC func272 fun w0 Z O=>?_
 have f:=QdO (a:=a) (b:=b) hl
 cases h:(JW l&&Vm a b) with
 | false=>
  rw[h]at f
  rw[Qfe (by cases e:JW l with|false=>exact .inl rfl|true=>rw[e]at h;exact .inr (.inl h))]
  repeat'(first|(refine zhm fun hb=>?_;try exact zab)|refine zUro ?_|refine zg2 ?_ ?_|intro _)
  exact zDR
 | true=>
  rw[h]at f
  rw[Xac]at h
  have d:=QkK (a:=a) (b:=b) (v:=v) (JE.1 h.1) h.2
  rw[show Vo l a b v=chgP l a b (fun x=>subO x v) by
   cases c:Qh v with
   | false=>rw[Qfe (.inr (.inr c)),chgP,Qsl (JE.1 h.1) h.2 c];rfl
   | true=>exact Qo6 h.1 h.2 c]
  repeat'(first|(refine zhm fun hb=>?_;try exact zab)|refine zUro ?_|refine zg2 ?_ ?_|refine kmu d ?_|intro _)
  exact zDR

@[reducible] def QaN (o:Option Jn):List AV:=[Ws (o.getD zR),.d (.b o.isSome)]
theorem Qd7{r:Jn}{j:Job}{a b:Int}{l:List Int}(h:Qm j=false):resO r j a b l=none:=by
 unfold resO
 rw[if_neg (by rw[h];simp)]
theorem Qea{r:Jn}{j:Job}{a b:Int}{l:List Int}(h:Z4 r.topo j l=false):resO r j a b l=none:=by
 unfold resO
 rw[if_neg (by rw[h];simp)]
theorem Qro{r:Jn}{j:Job}{a b:Int}{l:List Int}(h1:Q6 r)(h2:Qm j=true)(h3:Z4 r.topo j l=true):resO r j a b l=match QaM a b j.need l r.profs with
  | none=>none
  | some ps=>match Vo r.lics a b j.lic with
   | none=>none
   | some q=>some ⟨r.topo,r.up,ps,q⟩:=by
 unfold resO
 rw[if_pos (by rw[h2,h3,show QjW r=true from pB_t.2 h1];rfl)]
 rfl
theorem QbX(ps:List (List Pt))(n:Nat)(q:List Pt):(Q7 ps).set n [.sl (ptE q)]=Q7 (ps.set n q):=by simp[Q7,List.map_set]
structure QwO (r:Jn) (a b:Int) (v:V3) (l:List Int) (i:Nat) (ps:List (List Pt)):Prop where
 le:i<=l.length
 len:ps.length=r.profs.length
 ok:∀j,j<ps.length->Jx (nth ps j)
 eq:QaM a b v (l.drop i) ps=QaM a b v l r.profs
theorem QdD{r:Jn}{a b:Int}{v:V3}{l:List Int}{i:Nat}{ps:List (List Pt)}(h:QwO r a b v l i ps)(hi:i<l.length)(hq:Vo (nth ps (nth l i).toNat) a b v=none):QaM a b v l r.profs=none:=by
 rw[<-h.eq,VW hi,QaM,hq]
theorem QeY{r:Jn}{a b:Int}{v:V3}{l:List Int}{i:Nat}{ps:List (List Pt)}{q:List Pt}(h:QwO r a b v l i ps)(hi:i<l.length)(hn:(nth l i).toNat<ps.length)(hq:Vo (nth ps (nth l i).toNat) a b v=some q):QwO r a b v l (i+1) (ps.set (nth l i).toNat q):=by
 refine⟨by omega,by rw[Xaw];exact h.len,fun j hj=>?_,?_⟩
 ·rw[Xaw]at hj
  rw[Qb0 hn]
  split
  ·exact QhE hq
  ·exact h.ok j hj
 ·rw[<-h.eq,VW hi]
  conv=>rhs;rw[QaM,hq]
theorem QhJ{r:Jn}{a b:Int}{v:V3}{l:List Int}{i:Nat}{ps:List (List Pt)}(h:QwO r a b v l i ps)(hi:¬i<l.length):QaM a b v l r.profs=some ps:=by
 rw[<-h.eq,Xbb (by omega)]
 rfl
theorem QvM{r:Jn}{j:Job}{a b:Int}{l:List Int}(hr:Q6 r)(hl:l.length<=1000000000):DC Tryz.prog 196 [Ws r,jobA j,zI a,zI b,zL (intE l),.clo 197 []] (QaN (resO r j a b l)):=by
 refine zMC func196 fun w0 Z O=>?_
 have hs:=hr.small
 have c1:=Qde hr
 have u:=Xf (j:=j)
 have w:=QbG (j:=j) hr.topo hl
 cases h:Qm j with
 | false=>
  rw[h]at u
  rw[Qd7 h]
  repeat'(first|(refine zhm fun hb=>?_;try exact zab)|refine Q2 ?_|(apply zch;exact zcg)|exact zhk|refine zg3 ?_ ?_|intro _)
  exact zDR
 | true=>
  rw[h]at u
  cases m:Z4 r.topo j l with
  | false=>
   rw[m]at w
   rw[Qea m]
   repeat'(first|(refine zhm fun hb=>?_;try exact zab)|refine Q2 ?_|(apply zch;exact zcg)|exact zhk|refine zg3 ?_ ?_|intro _)
   exact zDR
  | true=>
   rw[m]at w
   rw[Qro hr h m]
   have p:=pB_t.1 m
   have ad:1<=j.nodes:=by
    simp only[Qm,Xac,J4]at h
    omega
   have z:=p.num
   have x:=p.nodes 0 (by omega)
   have ah:=hr.num
   repeat'(first|(refine zhm fun hb=>?_;try exact zab)|refine Qd ?_|(apply zch;exact zcg)|exact zhk|refine zg3 ?_ ?_|refine kmu (QfO hr (by omega)) ?_|intro _)
   refine Qa (fun(k:Nat×List (List Pt))=>⟨86,[(2,zI a),(3,zI b),(5,.clo 197 []),(7,.ptr 7 0),(12,.ptr 12 0),(14,.ptr 14 0),(40,zL (intE l)),(41,zI (l.length:Nat)),(42,zI k.1)],[(7,.box 40 ((jobD j).map AV.d)),(12,.box 180 [.nil,.nil,.nil,.nil,.nil]),(14,.box 180 [zL (intE r.topo.parents),zL (Qr r.topo.nodes),zL (Qk r.up),.row 39,zL (ptE r.lics)]),(39,.row 178 (Q7 k.2) false)]⟩) (fun k=>QwO r a b j.need l k.1 k.2) (fun k=>l.length-k.1) (0,r.profs) (by exact⟨Xae _,rfl,hr.profs,rfl⟩) ?_ ?_
   ·exact zll
   ·rintro ⟨n,o⟩ g
    dsimp only at g ⊢
    have ae:=g.le
    have y:=g.len
    have ab:=Qc l
    have ag:=QB o
    by_cases e:n<l.length
    ·have ac:=p.nodes n e
     have s:=g.ok (nth l n).toNat (by omega)
     have aa:=s.len
     have c:=X1 (l:=nth o (nth l n).toNat) (a:=a) (b:=b) (v:=j.need) (by omega)
     cases f:Vo (nth o (nth l n).toNat) a b j.need with
     | none=>
      rw[f]at c
      rw[QdD g e f]
      repeat'(first|(refine zhm fun hb=>?_;try exact zab)|refine Q2 ?_|(apply zch;exact zcg)|exact zhk|refine zg3 ?_ ?_|(refine kw [] (c) rfl rfl rfl rfl rfl (fun i hi=>?_);try dsimp only at hi)|intro _)
      exact zDR
     | some q=>
      rw[f]at c
      have t:=QeY g e (by omega) f
      repeat'(first|(refine zhm fun hb=>?_;try exact zab)|refine Q2 ?_|(apply zch;exact zcg)|exact zhk|refine zg3 ?_ ?_|(refine kw [] (c) rfl rfl rfl rfl rfl (fun i hi=>?_);try dsimp only at hi)|intro _)
      refine⟨(n+1,o.set (nth l n).toNat q),t,by dsimp only;omega,?_⟩
      refine zag ?_;exact zp (QbX _ _ _)
    ·rw[QhJ g e]
     have af:=hr.lics.len
     have c:=X1 (l:=r.lics) (a:=a) (b:=b) (v:=j.lic) (by omega)
     cases f:Vo r.lics a b j.lic with
     | none=>
      rw[f]at c
      repeat'(first|(refine zhm fun hb=>?_;try exact zab)|refine Q2 ?_|(apply zch;exact zcg)|exact zhk|refine zg3 ?_ ?_|(refine kw [] (c) rfl rfl rfl rfl rfl (fun i hi=>?_);try dsimp only at hi)|intro _)
      exact zDR
     | some q=>
      rw[f]at c
      repeat'(first|(refine zhm fun hb=>?_;try exact zab)|refine Q2 ?_|(apply zch;exact zcg)|exact zhk|refine zg3 ?_ ?_|(refine kw [] (c) rfl rfl rfl rfl rfl (fun i hi=>?_);try dsimp only at hi)|intro _)
      show AWp _ _ _ _
      refine Qp 39 rfl ?_
      exact zDR

theorem Qd2{r:Jn}{j:Job}{a:Int}{l:List Int}(hr:Q6 r)(hl:l.length<=1000000000)(ha:0<=a/\a<=1000000000):DC Tryz.prog 212 [Ws r,jobA j,zI a,zL (intE l)] (QaN (resO r j a (a+j.wall) l)):=by
 refine zMC func212 fun w0 Z O=>?_
 have hs:=hr.small
 have p:=QeM (j:=j) hr hl
 have c2:=Wh (x:=a)
 rw[show inB a 0 1000000000=true by rw[J4];exact ha]at c2
 cases h:Qm j with
 | false=>
  rw[h,Xcd]at p
  rw[Qd7 h]
  repeat'(first|(refine zhm fun hb=>?_;try exact zab)|refine Q2 ?_|(apply zch;exact zcg)|exact zhk|refine zg3 ?_ ?_|intro _)
  exact zDR
 | true=>
  cases i:Z4 r.topo j l with
  | false=>
   rw[h,i,XbD]at p
   rw[Qea i]
   repeat'(first|(refine zhm fun hb=>?_;try exact zab)|refine Q2 ?_|(apply zch;exact zcg)|exact zhk|refine zg3 ?_ ?_|intro _)
   exact zDR
  | true=>
   rw[h,i,XbD]at p
   rw[Qro hr h i]
   have s:=pB_t.1 i
   have m:=h
   simp only[Qm,Xac,J4]at m
   have af:1<=j.wall/\j.wall<=1000000:=m.1.2
   have ae:1<=j.nodes:=by omega
   have z:=s.num
   have w:=s.nodes 0 (by omega)
   have aj:=hr.num
   repeat'(first|(refine zhm fun hb=>?_;try exact zab)|refine Qd ?_|(apply zch;exact zcg)|exact zhk|refine zg3 ?_ ?_|refine kmu (QeR hr (by omega)) ?_|intro _)
   refine Qa (fun(k:Nat×List (List Pt))=>⟨80,[(2,zI a),(5,.ptr 5 0),(8,.ptr 8 0),(10,.ptr 10 0),(30,zL (intE l)),(31,zI (l.length:Nat)),(32,zI k.1)],[(5,.box 40 ((jobD j).map AV.d)),(8,.box 180 [.nil,.nil,.nil,.nil,.nil]),(10,.box 180 [zL (intE r.topo.parents),zL (Qr r.topo.nodes),zL (Qk r.up),.row 29,zL (ptE r.lics)]),(29,.row 178 (Q7 k.2) false)]⟩) (fun k=>QwO r a (a+j.wall) j.need l k.1 k.2) (fun k=>l.length-k.1) (0,r.profs) (by exact⟨Xae _,rfl,hr.profs,rfl⟩) ?_ ?_
   ·exact zll
   ·rintro ⟨n,o⟩ g
    dsimp only at g ⊢
    have ag:=g.le
    have y:=g.len
    have ac:=Qc l
    have ai:=QB o
    by_cases e:n<l.length
    ·have ad:=s.nodes n e
     have t:=g.ok (nth l n).toNat (by omega)
     have aa:=t.len
     have c:=QfB (l:=nth o (nth l n).toNat) (a:=a) (b:=a+j.wall) (v:=j.need) (by omega)
     cases f:Vo (nth o (nth l n).toNat) a (a+j.wall) j.need with
     | none=>
      rw[f]at c
      rw[QdD g e f]
      repeat'(first|(refine zhm fun hb=>?_;try exact zab)|refine QgS ?_|(apply zch;exact zcg)|exact zhk|refine zg3 ?_ ?_|refine kmu c ?_|intro _)
      exact zDR
     | some q=>
      rw[f]at c
      have u:=QeY g e (by omega) f
      repeat'(first|(refine zhm fun hb=>?_;try exact zab)|refine QgS ?_|(apply zch;exact zcg)|exact zhk|refine zg3 ?_ ?_|refine kmu c ?_|intro _)
      refine⟨(n+1,o.set (nth l n).toNat q),u,by dsimp only;omega,?_⟩
      refine zag ?_;exact zp (QbX _ _ _)
    ·rw[QhJ g e]
     have ah:=hr.lics.len
     have c:=QfB (l:=r.lics) (a:=a) (b:=a+j.wall) (v:=j.lic) (by omega)
     cases f:Vo r.lics a (a+j.wall) j.lic with
     | none=>
      rw[f]at c
      repeat'(first|(refine zhm fun hb=>?_;try exact zab)|refine QgS ?_|(apply zch;exact zcg)|exact zhk|refine zg3 ?_ ?_|refine kmu c ?_|intro _)
      exact zDR
     | some q=>
      rw[f]at c
      repeat'(first|(refine zhm fun hb=>?_;try exact zab)|refine QgS ?_|(apply zch;exact zcg)|exact zhk|refine zg3 ?_ ?_|refine kmu c ?_|intro _)
      show AWp _ _ _ _
      refine Qp 29 rfl ?_
      exact zDR
end
end Go.Proofs.YtkdniahincpmaaaGreat
