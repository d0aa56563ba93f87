/-
  Rooms: RoomOk of a right room, different nodes; both.
-/
import Derived.Test.YtkdniahincpmaaaGreatKB17
set_option maxRecDepth 100000
set_option maxHeartbeats 16000000
namespace Go.Proofs.YtkdniahincpmaaaGreat
open Go Go.RowKit Tryz
section
attribute [local irreducible] AWp QI OpOk ACalls ChA QsOk MCalls EnC PY

theorem Q4.small{r:Jm}(h:Q4 r):(r.topo.parents.length<=24/\r.topo.nodes.length<=24)/\r.up.length<=24/\r.profs.length<=24/\r.lics.length<=200:=by
 have h1:=h.topo.len
 have h2:=h.topo.nlen
 have h3:=h.up
 have h4:=h.num
 have h5:=h.lics.len
 omega
theorem Qdj{r:Jm}(h:Q4 r):zAc 203 [Wq r] [.d (.b true)] []:=by
 refine zAC func203 fun w0 Z=>?_
 have hs:=h.small
 have h1:=h.up
 have h2:=h.num
 have e:=Qbo (t:=r.topo) (by omega) (by omega)
 rw[JY.2 h.topo]at e
 have f:=QhU (l:=r.lics) (by omega)
 rw[JH.2 h.lics]at f
 repeat'(first|(refine zhm fun hb=>?_;try exact zab)|refine zUtp ?_|refine zg2 ?_ ?_|intro _)
 refine Qa (fun(i:Nat)=>⟨43,[(1,.ptr 1 0),(30,zL (Q8 r.profs)),(31,zI (r.profs.length:Nat)),(32,zI i)],[(1,.box 180 (Qb5 r))]⟩) (fun i=>i<=r.profs.length) (fun i=>r.profs.length-i) 0 (by exact Xad _) ?_ ?_
 ·exact zll
 ·intro i hi
  have hl:=QB r.profs
  by_cases a:i<r.profs.length
  ·have c:=h.profs i a
   have g:=QhU (l:=nth r.profs i) (by have:=c.len;omega)
   rw[JH.2 c]at g
   repeat'(first|(refine zhm fun hb=>?_;try exact zab)|refine zUtp ?_|refine zg2 ?_ ?_|intro _)
   exact⟨i+1,by omega,by omega,zll⟩
  ·repeat'(first|(refine zhm fun hb=>?_;try exact zab)|refine zUtp ?_|refine zg2 ?_ ?_|intro _)
   exact zrr
theorem QdD{r:Jm}(h:Q4 r):zAc 213 [Wq r] [.d (.b true)] []:=by
 refine zAC func213 fun w0 Z=>?_
 have hs:=h.small
 have h1:=h.up
 have h2:=h.num
 have e:=ZU (t:=r.topo) (by omega) (by omega)
 rw[JY.2 h.topo]at e
 have f:=Qbv (l:=r.lics) (by omega)
 rw[JH.2 h.lics]at f
 repeat'(first|(refine zhm fun hb=>?_;try exact zab)|refine zUtp ?_|refine zg2 ?_ ?_|intro _)
 refine Qa (fun(i:Nat)=>⟨46,[(36,zL (Q8 r.profs)),(37,zI (r.profs.length:Nat)),(38,zI i)],[]⟩) (fun i=>i<=r.profs.length) (fun i=>r.profs.length-i) 0 (by exact Xad _) ?_ ?_
 ·exact zll
 ·intro i hi
  have hl:=QB r.profs
  by_cases a:i<r.profs.length
  ·have c:=h.profs i a
   have g:=Qbv (l:=nth r.profs i) (by have:=c.len;omega)
   rw[JH.2 c]at g
   repeat'(first|(refine zhm fun hb=>?_;try exact zab)|refine zUtp ?_|refine zg2 ?_ ?_|intro _)
   exact⟨i+1,by omega,by omega,zll⟩
  ·repeat'(first|(refine zhm fun hb=>?_;try exact zab)|refine zUtp ?_|refine zg2 ?_ ?_|intro _)
   exact zrr
theorem Qo8{t:QT}{j:Job}{l:List Int}{i:Nat}(hi:i<l.length)(h:hasI (l.take i) (nth l i)=true):Xc t j l=false:=pB_f.2 fun hd=>by rw[hd.diff i hi]at h;cases h
theorem QqO{t:QT}{j:Job}{l:List Int}(h:(l.length:Int)≠j.nodes):Xc t j l=false:=pB_f.2 fun hd=>h hd.num
theorem QoM{t:QT}{j:Job}{l:List Int}(ht:QW t)(h:Xa t l=false):Xc t j l=false:=pB_f.2 fun hd=>by rw[ZB.2 ⟨hd.nodes,ht⟩]at h;cases h
theorem Qvb{t:QT}{j:Job}{l:List Int}(h1:∀i,i<l.length->hasI (l.take i) (nth l i)=false)(h2:(l.length:Int)=j.nodes)(h3:Xa t l=true):Xc t j l=true:=pB_t.2 ⟨(ZB.1 h3).1,h1,h2⟩
theorem QqR(l:List Int)(i:Nat):(List.drop 0 ((intE l).take i))=intE (l.take i):=by simp[intE,List.map_take]
theorem Qbj{t:QT}{j:Job}{l:List Int}(ht:QW t)(hl:l.length<=1000000000):zAc 251 [YT t,jobA j,zL (intE l)] [.d (.b (Xc t j l))] []:=by
 refine zAC func251 fun w0 Z=>?_
 have o:=ht.len
 have n:=ht.nlen
 repeat'(first|(refine zhm fun hb=>?_;try exact zab)|refine zUtp ?_|refine zg2 ?_ ?_|intro _)
 refine Qa (fun(i:Nat)=>⟨32,[(2,zL (intE l)),(3,.ptr 3 0),(4,.ptr 4 0),(9,zL (intE l)),(10,zI (l.length:Nat)),(11,zI i)],[(3,.box 26 (WL t)),(4,.box 40 ((jobD j).map AV.d))]⟩) (fun i=>i<=l.length/\∀k,k<i->hasI (l.take k) (nth l k)=false) (fun i=>l.length-i) 0 (by exact⟨Xad _,fun k hk=>absurd hk (Xar _)⟩) ?_ ?_
 ·exact zll
 ·rintro i ⟨hi,f⟩
  have m:(intE l).length=l.length:=Qc l
  by_cases c:i<l.length
  ·have h:=Vz (l:=l.take i) (x:=nth l i) (by rw[Xah];omega)
   rw[<-QqR]at h
   repeat'(first|(refine zhm fun hb=>?_;try exact zab)|refine zUtp ?_|refine zg2 ?_ ?_|intro _)
   ·rw[Qo8 c (by assumption)]
    exact zrr
   ·refine⟨i+1,⟨by omega,fun k hk=>?_⟩,by omega,?_⟩
    ·by_cases e:k=i
     ·subst e;assumption
     ·exact f k (by omega)
    exact zll
  ·have g:=Qgg (t:=t) (l:=l) (by omega) (by omega) hl
   cases a:Xa t l with
   | false=>
    rw[a]at g
    rw[QoM ht a]
    repeat'(first|(refine zhm fun hb=>?_;try exact zab)|refine zUtp ?_|refine zg2 ?_ ?_|intro _)
    exact zrr
   | true=>
    rw[a]at g
    repeat'(first|(refine zhm fun hb=>?_;try exact zab)|refine zUtp ?_|refine zg2 ?_ ?_|intro _)
    refine zr [] ?_ ?_
    repeat'(first|exact ze3|refine ze2 ?_ ?_|refine ze4 ?_|exact ze5|fail)
    all_goals
     refine zp ?_
     by_cases e:(l.length:Int)=j.nodes
     ·rw[Qvb (fun k hk=>f k (by omega)) e a];simp[e]
     ·rw[QqO e];simp[e]
theorem Qec{r:Jm}{j:Job}{l:List Int}(hr:Q4 r)(hl:l.length<=1000000000):zAc 211 [Wq r,jobA j,zL (intE l)] [.d (.b (Qk j&&Xc r.topo j l))] []:=by
 refine zAC func211 fun w0 Z=>?_
 have q:=hr.topo.len
 have p:=hr.topo.nlen
 have c1:=QdD hr
 have f:=Qeg (j:=j)
 have g:=QcJ (t:=r.topo) (l:=l) (by omega) (by omega) hl
 cases h:Qk j with
 | false=>
  rw[h]at f
  repeat'(first|(refine zhm fun hb=>?_;try exact zab)|refine zUtp ?_|refine zg2 ?_ ?_|intro _)
  exact zrr
 | true=>
  rw[h]at f
  by_cases e:(l.length:Int)=j.nodes
  ·cases a:Xa r.topo l with
   | false=>
    rw[a]at g
    rw[QoM hr.topo a]
    repeat'(first|(refine zhm fun hb=>?_;try exact zab)|refine zUtp ?_|refine zg2 ?_ ?_|intro _)
    any_goals
     refine zr [] ?_ ?_
     repeat'(first|exact ze3|refine ze2 ?_ ?_|refine ze4 ?_|exact ze5|fail)
     all_goals exact zp rfl
   | true=>
    rw[a]at g
    repeat'(first|(refine zhm fun hb=>?_;try exact zab)|refine zUtp ?_|refine zg2 ?_ ?_|intro _)
    refine Qa (fun(i:Nat)=>⟨44,[(2,zL (intE l)),(31,zL (intE l)),(32,zI (l.length:Nat)),(33,zI i)],[]⟩) (fun i=>i<=l.length/\∀k,k<i->hasI (l.take k) (nth l k)=false) (fun i=>l.length-i) 0 (by exact⟨Xad _,fun k hk=>absurd hk (Xar _)⟩) ?_ ?_
    ·exact zll
    ·rintro i ⟨hi,m⟩
     have o:(intE l).length=l.length:=Qc l
     by_cases c:i<l.length
     ·have n:=WY (l:=l.take i) (x:=nth l i) (by rw[Xah];omega)
      rw[<-QqR]at n
      repeat'(first|(refine zhm fun hb=>?_;try exact zab)|refine zUtp ?_|refine zg2 ?_ ?_|intro _)
      ·rw[Qo8 c (by assumption)]
       exact zrr
      ·refine⟨i+1,⟨by omega,fun k hk=>?_⟩,by omega,?_⟩
       ·by_cases e:k=i
        ·subst e;assumption
        ·exact m k (by omega)
       exact zll
     ·rw[Qvb (fun k hk=>m k (by omega)) e a]
      repeat'(first|(refine zhm fun hb=>?_;try exact zab)|refine zUtp ?_|refine zg2 ?_ ?_|intro _)
      exact zrr
  ·rw[QqO e]
   repeat'(first|(refine zhm fun hb=>?_;try exact zab)|refine zUtp ?_|refine zg2 ?_ ?_|intro _)
   any_goals
    refine zr [] ?_ ?_
    repeat'(first|exact ze3|refine ze2 ?_ ?_|refine ze4 ?_|exact ze5|fail)
    all_goals exact zp rfl

theorem QnX{l:List Int}(h:l.length<=1000000000):DC Tryz.prog 109 [zL (intE l)] [zL (intE l)]:=by
 refine zMC func109 fun w0 Z O=>?_
 have hl:=Qc l
 repeat'(first|(refine zhm fun hb=>?_;try exact zab)|refine zUro ?_|refine zg2 ?_ ?_|intro _)
 show AWp _ _ _ _
 refine Qr 4 rfl ?_
 exact zDR
theorem Qcq{l:List Pt}(h:l.length<=1000000000):DC Tryz.prog 293 [Qav l] [Qav l]:=by
 refine zMC func293 fun w0 Z O=>?_
 have hl:=JN l
 repeat'(first|(refine zhm fun hb=>?_;try exact zab)|refine zUro ?_|refine zg2 ?_ ?_|intro _)
 show AWp _ _ _ _
 refine Qr 5 rfl ?_
 exact zDR
theorem Vd{l:List Pt}(h:l.length<=1000000000):DC Tryz.prog 302 [Qav l] [Qav l]:=by
 refine zMC func302 fun w0 Z O=>?_
 have hl:=JN l
 repeat'(first|(refine zhm fun hb=>?_;try exact zab)|refine zUro ?_|refine zg2 ?_ ?_|intro _)
 show AWp _ _ _ _
 refine Qr 3 rfl ?_
 exact zDR
theorem Qao{t:QT}(h1:t.parents.length<=1000000000)(h2:t.nodes.length<=1000000000):DC Tryz.prog 108 [YT t] [YT t]:=by
 refine zMC func108 fun w0 Z O=>?_
 have hl:=Qz t.nodes
 repeat'(first|(refine zhm fun hb=>?_;try exact zab)|refine Qzk ?_|(apply zch;exact zcg)|exact zhk|refine zg3 ?_ ?_|refine kmu (QnX (l:=t.parents) h1) ?_|intro _)
 show AWp _ _ _ _
 refine Qr 8 rfl ?_
 exact zDR
def slN(n:Nat)(es:List (List D)):AV:=match es with
 | []=>.nil
 | _::_=>.row n
def slO(n:Nat)(e:TypeId)(es:List (List D)):List (Nat×AO):=match es with
 | []=>[]
 | _::_=>[(n,.row e es false)]
theorem Wa(l:List (List Pt))(p:List Pt):Q8 l++[[.sl (ptE p)]]=Q8 (l++[p]):=by simp[Q8]
theorem QfP{r:Jm}(h:Q4 r)(h0:0<r.profs.length):MCalls Tryz.prog 252 [Wq r] [] (fun _:Unit=>True) (fun _=>[.agg [zL (intE r.topo.parents),zL (Qw r.topo.nodes),zL (Qp r.up),.row 0,zL (ptE r.lics)]]) (fun _=>[]) (fun _=>[(0,.row 178 (Q8 r.profs) false)]):=by
 refine zMC func252 fun w0 Z O=>?_
 have hs:=h.small
 have i:=Qx r.up
 have o:=Qz r.topo.nodes
 have s:=QB r.profs
 have j:=Qc r.topo.parents
 repeat'(first|(refine zhm fun hb=>?_;try exact zab)|(refine Qh 2 11 rfl ?_)|refine Qd ?_|(apply zch;exact zcg)|exact zhk|refine zg3 ?_ ?_|refine kmu (Qao (t:=r.topo) (by omega) (by omega)) ?_|refine kmu (Qcq (l:=r.lics) (by omega)) ?_|intro _)
 refine Qa (fun(k:Nat×List (List Pt))=>⟨32,[(2,.ptr 2 0),(3,.ptr 3 0),(17,zL (Q8 r.profs)),(18,zI (r.profs.length:Nat)),(19,zI k.1)],[(2,.box 180 [.nil,.nil,.nil,.nil,.nil]),(3,.box 180 [zL (intE r.topo.parents),zL (Qw r.topo.nodes),zL (Qp r.up),slN 28 (Q8 k.2),zL (ptE r.lics)])]++slO 28 178 (Q8 k.2)⟩) (fun k=>k.1<=r.profs.length/\k.2=r.profs.take k.1) (fun k=>r.profs.length-k.1) (0,[]) (by exact⟨Xad _,rfl⟩) ?_ ?_
 ·exact zll
 ·rintro ⟨n,a⟩ ⟨m,e⟩
  dsimp only at m e ⊢
  have p:a.length=n:=by rw[e,Xah];omega
  have f:=QB a
  by_cases d:n<r.profs.length
  ·have q:=h.profs n d
   have g:=q.len
   have c:=Qo d
   rw[<-e]at c
   cases a with
   | nil=>
    repeat'(first|(refine zhm fun hb=>?_;try exact zab)|refine Qd ?_|(apply zch;exact zcg)|exact zhk|refine zg3 ?_ ?_|refine kmu (Qcq (l:=nth r.profs n) (by omega)) ?_|intro _)
    refine⟨(n+1,[]++[nth r.profs n]),⟨by omega,c.symm⟩,by omega,?_⟩
    exact zll
   | cons p0 o0=>
    repeat'(first|(refine zhm fun hb=>?_;try exact zab)|refine Qd ?_|(apply zch;exact zcg)|exact zhk|refine zg3 ?_ ?_|refine kmu (Qcq (l:=nth r.profs n) (by omega)) ?_|intro _)
    refine⟨(n+1,(p0::o0)++[nth r.profs n]),⟨by omega,c.symm⟩,by omega,?_⟩
    refine zag ?_;exact zp (Wa (p0::o0) _)
  ·have b:a=r.profs:=by rw[e,Xas (by omega)]
   cases a with
   | nil=>rw[<-b]at h0;cases h0
   | cons p0 o0=>
    repeat'(first|(refine zhm fun hb=>?_;try exact zab)|refine QR ?_|(apply zch;exact zcg)|exact zhk|refine zg3 ?_ ?_|intro _)
    show AWp _ _ _ _
    refine QA ?_
    apply Qu
    refine zm () [28] trivial ?_ ?_ ?_
    repeat'(first|exact ze3|refine ze2 ?_ ?_|refine ze4 ?_|exact ze5|fail)
    all_goals exact zp (by first|rfl|rw[b])
theorem Qe4{r:Jm}(h:Q4 r)(h0:0<r.profs.length):MCalls Tryz.prog 271 [Wq r] [] (fun _:Unit=>True) (fun _=>[.agg [zL (intE r.topo.parents),zL (Qw r.topo.nodes),zL (Qp r.up),.row 0,zL (ptE r.lics)]]) (fun _=>[]) (fun _=>[(0,.row 178 (Q8 r.profs) false)]):=by
 refine zMC func271 fun w0 Z O=>?_
 have hs:=h.small
 have i:=Qx r.up
 have o:=Qz r.topo.nodes
 have s:=QB r.profs
 have j:=Qc r.topo.parents
 repeat'(first|(refine zhm fun hb=>?_;try exact zab)|(refine Qh 3 6 rfl ?_)|(refine Qh 3 14 rfl ?_)|(refine Qh 3 19 rfl ?_)|refine Qd ?_|(apply zch;exact zcg)|exact zhk|refine zg3 ?_ ?_|refine kmu (Vd (l:=r.lics) (by omega)) ?_|intro _)
 refine Qa (fun(k:Nat×List (List Pt))=>⟨42,[(2,.ptr 2 0),(3,.ptr 3 0),(27,zL (Q8 r.profs)),(28,zI (r.profs.length:Nat)),(29,zI k.1)],[(2,.box 180 [.nil,.nil,.nil,.nil,.nil]),(3,.box 180 [zL (intE r.topo.parents),zL (Qw r.topo.nodes),zL (Qp r.up),slN 38 (Q8 k.2),zL (ptE r.lics)])]++slO 38 178 (Q8 k.2)⟩) (fun k=>k.1<=r.profs.length/\k.2=r.profs.take k.1) (fun k=>r.profs.length-k.1) (0,[]) (by exact⟨Xad _,rfl⟩) ?_ ?_
 ·exact zll
 ·rintro ⟨n,a⟩ ⟨m,e⟩
  dsimp only at m e ⊢
  have p:a.length=n:=by rw[e,Xah];omega
  have f:=QB a
  by_cases d:n<r.profs.length
  ·have q:=h.profs n d
   have g:=q.len
   have c:=Qo d
   rw[<-e]at c
   cases a with
   | nil=>
    repeat'(first|(refine zhm fun hb=>?_;try exact zab)|refine Qd ?_|(apply zch;exact zcg)|exact zhk|refine zg3 ?_ ?_|refine kmu (Vd (l:=nth r.profs n) (by omega)) ?_|intro _)
    refine⟨(n+1,[]++[nth r.profs n]),⟨by omega,c.symm⟩,by omega,?_⟩
    exact zll
   | cons p0 o0=>
    repeat'(first|(refine zhm fun hb=>?_;try exact zab)|refine Qd ?_|(apply zch;exact zcg)|exact zhk|refine zg3 ?_ ?_|refine kmu (Vd (l:=nth r.profs n) (by omega)) ?_|intro _)
    refine⟨(n+1,(p0::o0)++[nth r.profs n]),⟨by omega,c.symm⟩,by omega,?_⟩
    refine zag ?_;exact zp (Wa (p0::o0) _)
  ·have b:a=r.profs:=by rw[e,Xas (by omega)]
   cases a with
   | nil=>rw[<-b]at h0;cases h0
   | cons p0 o0=>
    repeat'(first|(refine zhm fun hb=>?_;try exact zab)|refine QR ?_|(apply zch;exact zcg)|exact zhk|refine zg3 ?_ ?_|intro _)
    show AWp _ _ _ _
    refine QA ?_
    apply Qu
    refine zm () [38] trivial ?_ ?_ ?_
    repeat'(first|exact ze3|refine ze2 ?_ ?_|refine ze4 ?_|exact ze5|fail)
    all_goals exact zp (by first|rfl|rw[b])

@[reducible] def QaK (o:Option Jm):List AV:=[Wq (o.getD zR),.d (.b o.isSome)]
theorem Qfp{r:Jm}{j:Job}{a b:Int}{l:List Int}(h:Qk j=false):resO r j a b l=none:=by
 unfold resO
 rw[if_neg (by rw[h];simp)]
theorem Qeu{r:Jm}{j:Job}{a b:Int}{l:List Int}(h:Xc r.topo j l=false):resO r j a b l=none:=by
 unfold resO
 rw[if_neg (by rw[h];simp)]
theorem Qqz{r:Jm}{j:Job}{a b:Int}{l:List Int}(h1:Q4 r)(h2:Qk j=true)(h3:Xc r.topo j l=true):resO r j a b l=match QaM a b j.need l r.profs with
  | none=>none
  | some ps=>match Vn r.lics a b j.lic with
   | none=>none
   | some q=>some ⟨r.topo,r.up,ps,q⟩:=by
 unfold resO
 rw[if_pos (by rw[h2,h3,show Qj9 r=true from pB_t.2 h1];rfl)]
 rfl
theorem Qca(ps:List (List Pt))(n:Nat)(q:List Pt):(Q8 ps).set n [.sl (ptE q)]=Q8 (ps.set n q):=by simp[Q8,List.map_set]
structure Qxk (r:Jm) (a b:Int) (v:V3) (l:List Int) (i:Nat) (ps:List (List Pt)):Prop where
 le:i<=l.length
 len:ps.length=r.profs.length
 ok:∀j,j<ps.length->Jy (nth ps j)
 eq:QaM a b v (l.drop i) ps=QaM a b v l r.profs
theorem QeV{r:Jm}{a b:Int}{v:V3}{l:List Int}{i:Nat}{ps:List (List Pt)}(h:Qxk r a b v l i ps)(hi:i<l.length)(hq:Vn (nth ps (nth l i).toNat) a b v=none):QaM a b v l r.profs=none:=by
 rw[<-h.eq,Vo hi,QaM,hq]
theorem Qeo{r:Jm}{a b:Int}{v:V3}{l:List Int}{i:Nat}{ps:List (List Pt)}{q:List Pt}(h:Qxk r a b v l i ps)(hi:i<l.length)(hn:(nth l i).toNat<ps.length)(hq:Vn (nth ps (nth l i).toNat) a b v=some q):Qxk r a b v l (i+1) (ps.set (nth l i).toNat q):=by
 refine⟨by omega,by rw[XaM];exact h.len,fun j hj=>?_,?_⟩
 ·rw[XaM]at hj
  rw[Qcx hn]
  split
  ·exact QgW hq
  ·exact h.ok j hj
 ·rw[<-h.eq,Vo hi]
  conv=>rhs;rw[QaM,hq]
theorem Qhy{r:Jm}{a b:Int}{v:V3}{l:List Int}{i:Nat}{ps:List (List Pt)}(h:Qxk r a b v l i ps)(hi:¬i<l.length):QaM a b v l r.profs=some ps:=by
 rw[<-h.eq,Xbf (by omega)]
 rfl
theorem QvC{r:Jm}{j:Job}{a b:Int}{l:List Int}(hr:Q4 r)(hl:l.length<=1000000000):DC Tryz.prog 196 [Wq r,jobA j,zI a,zI b,zL (intE l),.clo 197 []] (QaK (resO r j a b l)):=by
 refine zMC func196 fun w0 Z O=>?_
 have hs:=hr.small
 have c1:=Qdj hr
 have u:=XT (j:=j)
 have w:=Qbj (j:=j) hr.topo hl
 cases h:Qk j with
 | false=>
  rw[h]at u
  rw[Qfp h]
  repeat'(first|(refine zhm fun hb=>?_;try exact zab)|refine QR ?_|(apply zch;exact zcg)|exact zhk|refine zg3 ?_ ?_|intro _)
  exact zDR
 | true=>
  rw[h]at u
  cases m:Xc r.topo j l with
  | false=>
   rw[m]at w
   rw[Qeu m]
   repeat'(first|(refine zhm fun hb=>?_;try exact zab)|refine QR ?_|(apply zch;exact zcg)|exact zhk|refine zg3 ?_ ?_|intro _)
   exact zDR
  | true=>
   rw[m]at w
   rw[Qqz hr h m]
   have p:=pB_t.1 m
   have ad:1<=j.nodes:=by
    simp only[Qk,Xab,JA]at h
    omega
   have z:=p.num
   have x:=p.nodes 0 (by omega)
   have ah:=hr.num
   repeat'(first|(refine zhm fun hb=>?_;try exact zab)|refine Qd ?_|(apply zch;exact zcg)|exact zhk|refine zg3 ?_ ?_|refine kmu (QfP hr (by omega)) ?_|intro _)
   refine Qa (fun(k:Nat×List (List Pt))=>⟨86,[(2,zI a),(3,zI b),(5,.clo 197 []),(7,.ptr 7 0),(12,.ptr 12 0),(14,.ptr 14 0),(40,zL (intE l)),(41,zI (l.length:Nat)),(42,zI k.1)],[(7,.box 40 ((jobD j).map AV.d)),(12,.box 180 [.nil,.nil,.nil,.nil,.nil]),(14,.box 180 [zL (intE r.topo.parents),zL (Qw r.topo.nodes),zL (Qp r.up),.row 39,zL (ptE r.lics)]),(39,.row 178 (Q8 k.2) false)]⟩) (fun k=>Qxk r a b j.need l k.1 k.2) (fun k=>l.length-k.1) (0,r.profs) (by exact⟨Xad _,rfl,hr.profs,rfl⟩) ?_ ?_
   ·exact zll
   ·rintro ⟨n,o⟩ g
    dsimp only at g ⊢
    have ae:=g.le
    have y:=g.len
    have ab:=Qc l
    have ag:=QB o
    by_cases e:n<l.length
    ·have ac:=p.nodes n e
     have s:=g.ok (nth l n).toNat (by omega)
     have aa:=s.len
     have c:=Qaa (l:=nth o (nth l n).toNat) (a:=a) (b:=b) (v:=j.need) (by omega)
     cases f:Vn (nth o (nth l n).toNat) a b j.need with
     | none=>
      rw[f]at c
      rw[QeV g e f]
      repeat'(first|(refine zhm fun hb=>?_;try exact zab)|refine QR ?_|(apply zch;exact zcg)|exact zhk|refine zg3 ?_ ?_|(refine kw [] (c) rfl rfl rfl rfl rfl (fun i hi=>?_);try dsimp only at hi)|intro _)
      exact zDR
     | some q=>
      rw[f]at c
      have t:=Qeo g e (by omega) f
      repeat'(first|(refine zhm fun hb=>?_;try exact zab)|refine QR ?_|(apply zch;exact zcg)|exact zhk|refine zg3 ?_ ?_|(refine kw [] (c) rfl rfl rfl rfl rfl (fun i hi=>?_);try dsimp only at hi)|intro _)
      refine⟨(n+1,o.set (nth l n).toNat q),t,by dsimp only;omega,?_⟩
      refine zag ?_;exact zp (Qca _ _ _)
    ·rw[Qhy g e]
     have af:=hr.lics.len
     have c:=Qaa (l:=r.lics) (a:=a) (b:=b) (v:=j.lic) (by omega)
     cases f:Vn r.lics a b j.lic with
     | none=>
      rw[f]at c
      repeat'(first|(refine zhm fun hb=>?_;try exact zab)|refine QR ?_|(apply zch;exact zcg)|exact zhk|refine zg3 ?_ ?_|(refine kw [] (c) rfl rfl rfl rfl rfl (fun i hi=>?_);try dsimp only at hi)|intro _)
      exact zDR
     | some q=>
      rw[f]at c
      repeat'(first|(refine zhm fun hb=>?_;try exact zab)|refine QR ?_|(apply zch;exact zcg)|exact zhk|refine zg3 ?_ ?_|(refine kw [] (c) rfl rfl rfl rfl rfl (fun i hi=>?_);try dsimp only at hi)|intro _)
      show AWp _ _ _ _
      refine Qr 39 rfl ?_
      exact zDR

theorem QeA{r:Jm}{j:Job}{a:Int}{l:List Int}(hr:Q4 r)(hl:l.length<=1000000000)(ha:0<=a/\a<=1000000000):DC Tryz.prog 212 [Wq r,jobA j,zI a,zL (intE l)] (QaK (resO r j a (a+j.wall) l)):=by
 refine zMC func212 fun w0 Z O=>?_
 have hs:=hr.small
 have p:=Qec (j:=j) hr hl
 have c2:=Wl (x:=a)
 rw[show inB a 0 1000000000=true by rw[JA];exact ha]at c2
 cases h:Qk j with
 | false=>
  rw[h,Xb7]at p
  rw[Qfp h]
  repeat'(first|(refine zhm fun hb=>?_;try exact zab)|refine QR ?_|(apply zch;exact zcg)|exact zhk|refine zg3 ?_ ?_|intro _)
  exact zDR
 | true=>
  cases i:Xc r.topo j l with
  | false=>
   rw[h,i,Xbw]at p
   rw[Qeu i]
   repeat'(first|(refine zhm fun hb=>?_;try exact zab)|refine QR ?_|(apply zch;exact zcg)|exact zhk|refine zg3 ?_ ?_|intro _)
   exact zDR
  | true=>
   rw[h,i,Xbw]at p
   rw[Qqz hr h i]
   have s:=pB_t.1 i
   have m:=h
   simp only[Qk,Xab,JA]at m
   have af:1<=j.wall/\j.wall<=1000000:=m.1.2
   have ae:1<=j.nodes:=by omega
   have z:=s.num
   have w:=s.nodes 0 (by omega)
   have aj:=hr.num
   repeat'(first|(refine zhm fun hb=>?_;try exact zab)|refine Qd ?_|(apply zch;exact zcg)|exact zhk|refine zg3 ?_ ?_|refine kmu (Qe4 hr (by omega)) ?_|intro _)
   refine Qa (fun(k:Nat×List (List Pt))=>⟨80,[(2,zI a),(5,.ptr 5 0),(8,.ptr 8 0),(10,.ptr 10 0),(30,zL (intE l)),(31,zI (l.length:Nat)),(32,zI k.1)],[(5,.box 40 ((jobD j).map AV.d)),(8,.box 180 [.nil,.nil,.nil,.nil,.nil]),(10,.box 180 [zL (intE r.topo.parents),zL (Qw r.topo.nodes),zL (Qp r.up),.row 29,zL (ptE r.lics)]),(29,.row 178 (Q8 k.2) false)]⟩) (fun k=>Qxk r a (a+j.wall) j.need l k.1 k.2) (fun k=>l.length-k.1) (0,r.profs) (by exact⟨Xad _,rfl,hr.profs,rfl⟩) ?_ ?_
   ·exact zll
   ·rintro ⟨n,o⟩ g
    dsimp only at g ⊢
    have ag:=g.le
    have y:=g.len
    have ac:=Qc l
    have ai:=QB o
    by_cases e:n<l.length
    ·have ad:=s.nodes n e
     have t:=g.ok (nth l n).toNat (by omega)
     have aa:=t.len
     have c:=QfM (l:=nth o (nth l n).toNat) (a:=a) (b:=a+j.wall) (v:=j.need) (by omega)
     cases f:Vn (nth o (nth l n).toNat) a (a+j.wall) j.need with
     | none=>
      rw[f]at c
      rw[QeV g e f]
      repeat'(first|(refine zhm fun hb=>?_;try exact zab)|refine QhJ ?_|(apply zch;exact zcg)|exact zhk|refine zg3 ?_ ?_|refine kmu c ?_|intro _)
      exact zDR
     | some q=>
      rw[f]at c
      have u:=Qeo g e (by omega) f
      repeat'(first|(refine zhm fun hb=>?_;try exact zab)|refine QhJ ?_|(apply zch;exact zcg)|exact zhk|refine zg3 ?_ ?_|refine kmu c ?_|intro _)
      refine⟨(n+1,o.set (nth l n).toNat q),u,by dsimp only;omega,?_⟩
      refine zag ?_;exact zp (Qca _ _ _)
    ·rw[Qhy g e]
     have ah:=hr.lics.len
     have c:=QfM (l:=r.lics) (a:=a) (b:=a+j.wall) (v:=j.lic) (by omega)
     cases f:Vn r.lics a (a+j.wall) j.lic with
     | none=>
      rw[f]at c
      repeat'(first|(refine zhm fun hb=>?_;try exact zab)|refine QhJ ?_|(apply zch;exact zcg)|exact zhk|refine zg3 ?_ ?_|refine kmu c ?_|intro _)
      exact zDR
     | some q=>
      rw[f]at c
      repeat'(first|(refine zhm fun hb=>?_;try exact zab)|refine QhJ ?_|(apply zch;exact zcg)|exact zhk|refine zg3 ?_ ?_|refine kmu c ?_|intro _)
      show AWp _ _ _ _
      refine Qr 29 rfl ?_
      exact zDR
end
end Go.Proofs.YtkdniahincpmaaaGreat
