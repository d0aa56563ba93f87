/-
  Rooms: RoomOk of a right room, different nodes; both.
-/
import Derived.Test.YtihgfennoalocaaGreatKB7
import Derived.Test.YtihgfennoalocaaGreatKB11
import Derived.Test.YtihgfennoalocaaGreatKB17
set_option maxRecDepth 100000
set_option maxHeartbeats 16000000
namespace Go.Proofs.YtihgfennoalocaaGreat
open Go Go.RowKit Tryz
section
attribute [local irreducible] AWp QJ OpOk ACalls ChA QsOk MCalls EnC PY

theorem Q5.small{r:Jy}(h:Q5 r):(r.topo.parents.length<=24/\r.topo.nodes.length<=24)/\r.up.length<=24/\r.profs.length<=24/\r.lics.length<=200:=by
 have h1:=h.topo.len
 have h2:=h.topo.nlen
 have h3:=h.up
 have h4:=h.num
 have h5:=h.lics.len
 omega
theorem Qcz{r:Jy}(h:Q5 r):zAc 272 [Y7 r] [.d (.b true)] []:=by
 refine zAC func272 fun w0 Z=>?_
 have hs:=h.small
 have h1:=h.up
 have h2:=h.num
 have c1:=Qcf (t:=r.topo) (by omega) (by omega)
 rw[JT.2 h.topo]at c1
 have c2:=QfH (l:=r.lics) (by omega)
 rw[JK.2 h.lics]at c2
 repeat'(first|(refine zhm fun hb=>?_;try exact zab)|refine zUtp ?_|refine zg2 ?_ ?_|intro _|fail)
 refine Qa (fun(i:Nat)=>⟨43,[(1,.ptr 1 0),(30,zL (QZ r.profs)),(31,zI (r.profs.length:Nat)),(32,zI i)],[(1,.box 209 (Qa9 r))]⟩) (fun i=>i<=r.profs.length) (fun i=>r.profs.length-i) 0 (by exact Xab _) ?_ ?_
 ·exact zll
 ·intro i hi
  have hl:=Qy r.profs
  by_cases hi':i<r.profs.length
  ·have hp:=h.profs i hi'
   have c3:=QfH (l:=nth r.profs i) (by have:=hp.len;omega)
   rw[JK.2 hp]at c3
   repeat'(first|(refine zhm fun hb=>?_;try exact zab)|refine zUtp ?_|refine zg2 ?_ ?_|intro _|fail)
   exact⟨i+1,by omega,by omega,zll⟩
  ·repeat'(first|(refine zhm fun hb=>?_;try exact zab)|refine zUtp ?_|refine zg2 ?_ ?_|intro _|fail)
   exact zrr
theorem Qcm{r:Jy}(h:Q5 r):zAc 266 [Y7 r] [.d (.b true)] []:=by
 refine zAC func266 fun w0 Z=>?_
 have hs:=h.small
 have h1:=h.up
 have h2:=h.num
 have c1:=Zb (t:=r.topo) (by omega) (by omega)
 rw[JT.2 h.topo]at c1
 have c2:=Qal (l:=r.lics) (by omega)
 rw[JK.2 h.lics]at c2
 repeat'(first|(refine zhm fun hb=>?_;try exact zab)|refine zUtp ?_|refine zg2 ?_ ?_|intro _|fail)
 refine Qa (fun(i:Nat)=>⟨46,[(36,zL (QZ r.profs)),(37,zI (r.profs.length:Nat)),(38,zI i)],[]⟩) (fun i=>i<=r.profs.length) (fun i=>r.profs.length-i) 0 (by exact Xab _) ?_ ?_
 ·exact zll
 ·intro i hi
  have hl:=Qy r.profs
  by_cases hi':i<r.profs.length
  ·have hp:=h.profs i hi'
   have c3:=Qal (l:=nth r.profs i) (by have:=hp.len;omega)
   rw[JK.2 hp]at c3
   repeat'(first|(refine zhm fun hb=>?_;try exact zab)|refine zUtp ?_|refine zg2 ?_ ?_|intro _|fail)
   exact⟨i+1,by omega,by omega,zll⟩
  ·repeat'(first|(refine zhm fun hb=>?_;try exact zab)|refine zUtp ?_|refine zg2 ?_ ?_|intro _|fail)
   exact zrr
theorem QmN{t:QW}{j:Job}{l:List Int}{i:Nat}(hi:i<l.length)(h:hasI (l.take i) (nth l i)=true):Zn t j l=false:=pB_f.2 fun hd=>by rw[hd.diff i hi]at h;cases h
theorem Qph{t:QW}{j:Job}{l:List Int}(h:(l.length:Int)≠j.nodes):Zn t j l=false:=pB_f.2 fun hd=>h hd.num
theorem Qmk{t:QW}{j:Job}{l:List Int}(ht:QY t)(h:Zl t l=false):Zn t j l=false:=pB_f.2 fun hd=>by rw[VQ.2 ⟨hd.nodes,ht⟩]at h;cases h
theorem QrR{t:QW}{j:Job}{l:List Int}(h1:∀i,i<l.length->hasI (l.take i) (nth l i)=false)(h2:(l.length:Int)=j.nodes)(h3:Zl t l=true):Zn t j l=true:=pB_t.2 ⟨(VQ.1 h3).1,h1,h2⟩
theorem Qm5(l:List Int)(i:Nat):(List.drop 0 ((intE l).take i))=intE (l.take i):=by simp[intE,List.map_take]
theorem QaK{t:QW}{j:Job}{l:List Int}(ht:QY t)(hl:l.length<=1000000000):zAc 273 [Yy t,jobA j,zL (intE l)] [.d (.b (Zn t j l))] []:=by
 refine zAC func273 fun w0 Z=>?_
 have hps:=ht.len
 have hns:=ht.nlen
 repeat'(first|(refine zhm fun hb=>?_;try exact zab)|refine zUtp ?_|refine zg2 ?_ ?_|intro _|fail)
 refine Qa (fun(i:Nat)=>⟨32,[(2,zL (intE l)),(3,.ptr 3 0),(4,.ptr 4 0),(9,zL (intE l)),(10,zI (l.length:Nat)),(11,zI i)],[(3,.box 43 (We t)),(4,.box 72 ((jobD j).map AV.d))]⟩) (fun i=>i<=l.length/\∀k,k<i->hasI (l.take k) (nth l k)=false) (fun i=>l.length-i) 0 (by exact⟨Xab _,fun k hk=>absurd hk (Xas _)⟩) ?_ ?_
 ·exact zll
 ·rintro i ⟨hi,hd⟩
  have hil:(intE l).length=l.length:=Qb l
  by_cases hi':i<l.length
  ·have hc:=WM (l:=l.take i) (x:=nth l i) (by rw[Xai];omega)
   rw[<-Qm5]at hc
   repeat'(first|(refine zhm fun hb=>?_;try exact zab)|refine zUtp ?_|refine zg2 ?_ ?_|intro _|fail)
   ·rw[QmN hi' (by assumption)]
    exact zrr
   ·refine⟨i+1,⟨by omega,fun k hk=>?_⟩,by omega,?_⟩
    ·by_cases e:k=i
     ·subst e;assumption
     ·exact hd k (by omega)
    exact zll
  ·have hn:=QeB (t:=t) (l:=l) (by omega) (by omega) hl
   cases hnb:Zl t l with
   | false=>
    rw[hnb]at hn
    rw[Qmk ht hnb]
    repeat'(first|(refine zhm fun hb=>?_;try exact zab)|refine zUtp ?_|refine zg2 ?_ ?_|intro _|fail)
    exact zrr
   | true=>
    rw[hnb]at hn
    repeat'(first|(refine zhm fun hb=>?_;try exact zab)|refine zUtp ?_|refine zg2 ?_ ?_|intro _|fail)
    refine zr [] ?_ ?_
    repeat'(first|exact ze3|refine ze2 ?_ ?_|refine ze4 ?_|exact ze5|fail)
    all_goals
     refine zp ?_
     by_cases e:(l.length:Int)=j.nodes
     ·rw[QrR (fun k hk=>hd k (by omega)) e hnb];simp[e]
     ·rw[Qph e];simp[e]
theorem QdY{r:Jy}{j:Job}{l:List Int}(hr:Q5 r)(hl:l.length<=1000000000):zAc 224 [Y7 r,jobA j,zL (intE l)] [.d (.b (Qu j&&Zn r.topo j l))] []:=by
 refine zAC func224 fun w0 Z=>?_
 have hps:=hr.topo.len
 have hns:=hr.topo.nlen
 have c1:=Qcm hr
 have c2:=QcT (j:=j)
 have c3:=Qbg (t:=r.topo) (l:=l) (by omega) (by omega) hl
 cases h2:Qu j with
 | false=>
  rw[h2]at c2
  repeat'(first|(refine zhm fun hb=>?_;try exact zab)|refine zUtp ?_|refine zg2 ?_ ?_|intro _|fail)
  exact zrr
 | true=>
  rw[h2]at c2
  by_cases e:(l.length:Int)=j.nodes
  ·cases h3:Zl r.topo l with
   | false=>
    rw[h3]at c3
    rw[Qmk hr.topo h3]
    repeat'(first|(refine zhm fun hb=>?_;try exact zab)|refine zUtp ?_|refine zg2 ?_ ?_|intro _|fail)
    any_goals
     refine zr [] ?_ ?_
     repeat'(first|exact ze3|refine ze2 ?_ ?_|refine ze4 ?_|exact ze5|fail)
     all_goals exact zp rfl
   | true=>
    rw[h3]at c3
    repeat'(first|(refine zhm fun hb=>?_;try exact zab)|refine zUtp ?_|refine zg2 ?_ ?_|intro _|fail)
    refine Qa (fun(i:Nat)=>⟨44,[(2,zL (intE l)),(31,zL (intE l)),(32,zI (l.length:Nat)),(33,zI i)],[]⟩) (fun i=>i<=l.length/\∀k,k<i->hasI (l.take k) (nth l k)=false) (fun i=>l.length-i) 0 (by exact⟨Xab _,fun k hk=>absurd hk (Xas _)⟩) ?_ ?_
    ·exact zll
    ·rintro i ⟨hi,hd⟩
     have hil:(intE l).length=l.length:=Qb l
     by_cases hi':i<l.length
     ·have hc:=Wp (l:=l.take i) (x:=nth l i) (by rw[Xai];omega)
      rw[<-Qm5]at hc
      repeat'(first|(refine zhm fun hb=>?_;try exact zab)|refine zUtp ?_|refine zg2 ?_ ?_|intro _|fail)
      ·rw[QmN hi' (by assumption)]
       exact zrr
      ·refine⟨i+1,⟨by omega,fun k hk=>?_⟩,by omega,?_⟩
       ·by_cases e:k=i
        ·subst e;assumption
        ·exact hd k (by omega)
       exact zll
     ·rw[QrR (fun k hk=>hd k (by omega)) e h3]
      repeat'(first|(refine zhm fun hb=>?_;try exact zab)|refine zUtp ?_|refine zg2 ?_ ?_|intro _|fail)
      exact zrr
  ·rw[Qph e]
   repeat'(first|(refine zhm fun hb=>?_;try exact zab)|refine zUtp ?_|refine zg2 ?_ ?_|intro _|fail)
   any_goals
    refine zr [] ?_ ?_
    repeat'(first|exact ze3|refine ze2 ?_ ?_|refine ze4 ?_|exact ze5|fail)
    all_goals exact zp rfl

theorem Ql5{l:List Int}(h:l.length<=1000000000):DC Tryz.prog 145 [zL (intE l)] [zL (intE l)]:=by
 refine zMC func145 fun w0 Z O=>?_
 have hl:=Qb l
 repeat'(first|(refine zhm fun hb=>?_;try exact zab)|refine zUro ?_|refine zg2 ?_ ?_|intro _|fail)
 show AWp _ _ _ _
 refine Qs 4 rfl ?_
 exact zDR
theorem QbA{l:List Pt}(h:l.length<=1000000000):DC Tryz.prog 298 [XA l] [XA l]:=by
 refine zMC func298 fun w0 Z O=>?_
 have hl:=JD l
 repeat'(first|(refine zhm fun hb=>?_;try exact zab)|refine zUro ?_|refine zg2 ?_ ?_|intro _|fail)
 show AWp _ _ _ _
 refine Qs 5 rfl ?_
 exact zDR
theorem Wt{l:List Pt}(h:l.length<=1000000000):DC Tryz.prog 291 [XA l] [XA l]:=by
 refine zMC func291 fun w0 Z O=>?_
 have hl:=JD l
 repeat'(first|(refine zhm fun hb=>?_;try exact zab)|refine zUro ?_|refine zg2 ?_ ?_|intro _|fail)
 show AWp _ _ _ _
 refine Qs 3 rfl ?_
 exact zDR
theorem Xj{t:QW}(h1:t.parents.length<=1000000000)(h2:t.nodes.length<=1000000000):DC Tryz.prog 144 [Yy t] [Yy t]:=by
 refine zMC func144 fun w0 Z O=>?_
 have hl:=Qr t.nodes
 repeat'(first|(refine zhm fun hb=>?_;try exact zab)|refine Qvg ?_|(apply zch;exact zcg)|exact zhk|refine zg3 ?_ ?_|refine kmu (Ql5 (l:=t.parents) h1) ?_|intro _|fail)
 show AWp _ _ _ _
 refine Qs 8 rfl ?_
 exact zDR
def slN(n:Nat)(es:List (List D)):AV:=match es with
 | []=>.nil
 | _::_=>.row n
def slO(n:Nat)(e:TypeId)(es:List (List D)):List (Nat×AO):=match es with
 | []=>[]
 | _::_=>[(n,.row e es false)]
theorem YV(l:List (List Pt))(p:List Pt):QZ l++[[.sl (ptE p)]]=QZ (l++[p]):=by simp[QZ]
theorem Qe2{r:Jy}(h:Q5 r)(h0:0<r.profs.length):MCalls Tryz.prog 274 [Y7 r] [] (fun _:Unit=>True) (fun _=>[.agg [zL (intE r.topo.parents),zL (Qz r.topo.nodes),zL (Qq r.up),.row 0,zL (ptE r.lics)]]) (fun _=>[]) (fun _=>[(0,.row 207 (QZ r.profs) false)]):=by
 refine zMC func274 fun w0 Z O=>?_
 have hs:=h.small
 have hbl:=Qo r.up
 have hnl:=Qr r.topo.nodes
 have hpl:=Qy r.profs
 have hil:=Qb r.topo.parents
 repeat'(first|(refine zhm fun hb=>?_;try exact zab)|(refine Qi 2 11 rfl ?_)|refine Qe ?_|(apply zch;exact zcg)|exact zhk|refine zg3 ?_ ?_|refine kmu (Xj (t:=r.topo) (by omega) (by omega)) ?_|refine kmu (QbA (l:=r.lics) (by omega)) ?_|intro _|fail)
 refine Qa (fun(k:Nat×List (List Pt))=>⟨32,[(2,.ptr 2 0),(3,.ptr 3 0),(17,zL (QZ r.profs)),(18,zI (r.profs.length:Nat)),(19,zI k.1)],[(2,.box 209 [.nil,.nil,.nil,.nil,.nil]),(3,.box 209 [zL (intE r.topo.parents),zL (Qz r.topo.nodes),zL (Qq r.up),slN 28 (QZ k.2),zL (ptE r.lics)])]++slO 28 207 (QZ k.2)⟩) (fun k=>k.1<=r.profs.length/\k.2=r.profs.take k.1) (fun k=>r.profs.length-k.1) (0,[]) (by exact⟨Xab _,rfl⟩) ?_ ?_
 ·exact zll
 ·rintro ⟨n,out⟩ ⟨hn,ho⟩
  dsimp only at hn ho ⊢
  have hol:out.length=n:=by rw[ho,Xai];omega
  have hol2:=Qy out
  by_cases hn':n<r.profs.length
  ·have hp:=h.profs n hn'
   have hpl2:=hp.len
   have hnx:=QI hn'
   rw[<-ho]at hnx
   cases out with
   | nil=>
    repeat'(first|(refine zhm fun hb=>?_;try exact zab)|refine Qe ?_|(apply zch;exact zcg)|exact zhk|refine zg3 ?_ ?_|refine kmu (QbA (l:=nth r.profs n) (by omega)) ?_|intro _|fail)
    refine⟨(n+1,[]++[nth r.profs n]),⟨by omega,hnx.symm⟩,by omega,?_⟩
    exact zll
   | cons p0 o0=>
    repeat'(first|(refine zhm fun hb=>?_;try exact zab)|refine Qe ?_|(apply zch;exact zcg)|exact zhk|refine zg3 ?_ ?_|refine kmu (QbA (l:=nth r.profs n) (by omega)) ?_|intro _|fail)
    refine⟨(n+1,(p0::o0)++[nth r.profs n]),⟨by omega,hnx.symm⟩,by omega,?_⟩
    refine zag ?_;exact zp (YV (p0::o0) _)
  ·have hall:out=r.profs:=by rw[ho,Xaz (by omega)]
   cases out with
   | nil=>rw[<-hall]at h0;cases h0
   | cons p0 o0=>
    repeat'(first|(refine zhm fun hb=>?_;try exact zab)|refine Q7 ?_|(apply zch;exact zcg)|exact zhk|refine zg3 ?_ ?_|intro _|fail)
    show AWp _ _ _ _
    refine QD ?_
    apply Qt
    refine zm () [28] trivial ?_ ?_ ?_
    repeat'(first|exact ze3|refine ze2 ?_ ?_|refine ze4 ?_|exact ze5|fail)
    all_goals exact zp (by first|rfl|rw[hall])
theorem Qdr{r:Jy}(h:Q5 r)(h0:0<r.profs.length):MCalls Tryz.prog 265 [Y7 r] [] (fun _:Unit=>True) (fun _=>[.agg [zL (intE r.topo.parents),zL (Qz r.topo.nodes),zL (Qq r.up),.row 0,zL (ptE r.lics)]]) (fun _=>[]) (fun _=>[(0,.row 207 (QZ r.profs) false)]):=by
 refine zMC func265 fun w0 Z O=>?_
 have hs:=h.small
 have hbl:=Qo r.up
 have hnl:=Qr r.topo.nodes
 have hpl:=Qy r.profs
 have hil:=Qb r.topo.parents
 repeat'(first|(refine zhm fun hb=>?_;try exact zab)|(refine Qi 3 6 rfl ?_)|(refine Qi 3 14 rfl ?_)|(refine Qi 3 19 rfl ?_)|refine Qe ?_|(apply zch;exact zcg)|exact zhk|refine zg3 ?_ ?_|refine kmu (Wt (l:=r.lics) (by omega)) ?_|intro _|fail)
 refine Qa (fun(k:Nat×List (List Pt))=>⟨42,[(2,.ptr 2 0),(3,.ptr 3 0),(27,zL (QZ r.profs)),(28,zI (r.profs.length:Nat)),(29,zI k.1)],[(2,.box 209 [.nil,.nil,.nil,.nil,.nil]),(3,.box 209 [zL (intE r.topo.parents),zL (Qz r.topo.nodes),zL (Qq r.up),slN 38 (QZ k.2),zL (ptE r.lics)])]++slO 38 207 (QZ k.2)⟩) (fun k=>k.1<=r.profs.length/\k.2=r.profs.take k.1) (fun k=>r.profs.length-k.1) (0,[]) (by exact⟨Xab _,rfl⟩) ?_ ?_
 ·exact zll
 ·rintro ⟨n,out⟩ ⟨hn,ho⟩
  dsimp only at hn ho ⊢
  have hol:out.length=n:=by rw[ho,Xai];omega
  have hol2:=Qy out
  by_cases hn':n<r.profs.length
  ·have hp:=h.profs n hn'
   have hpl2:=hp.len
   have hnx:=QI hn'
   rw[<-ho]at hnx
   cases out with
   | nil=>
    repeat'(first|(refine zhm fun hb=>?_;try exact zab)|refine Qe ?_|(apply zch;exact zcg)|exact zhk|refine zg3 ?_ ?_|refine kmu (Wt (l:=nth r.profs n) (by omega)) ?_|intro _|fail)
    refine⟨(n+1,[]++[nth r.profs n]),⟨by omega,hnx.symm⟩,by omega,?_⟩
    exact zll
   | cons p0 o0=>
    repeat'(first|(refine zhm fun hb=>?_;try exact zab)|refine Qe ?_|(apply zch;exact zcg)|exact zhk|refine zg3 ?_ ?_|refine kmu (Wt (l:=nth r.profs n) (by omega)) ?_|intro _|fail)
    refine⟨(n+1,(p0::o0)++[nth r.profs n]),⟨by omega,hnx.symm⟩,by omega,?_⟩
    refine zag ?_;exact zp (YV (p0::o0) _)
  ·have hall:out=r.profs:=by rw[ho,Xaz (by omega)]
   cases out with
   | nil=>rw[<-hall]at h0;cases h0
   | cons p0 o0=>
    repeat'(first|(refine zhm fun hb=>?_;try exact zab)|refine Q7 ?_|(apply zch;exact zcg)|exact zhk|refine zg3 ?_ ?_|intro _|fail)
    show AWp _ _ _ _
    refine QD ?_
    apply Qt
    refine zm () [38] trivial ?_ ?_ ?_
    repeat'(first|exact ze3|refine ze2 ?_ ?_|refine ze4 ?_|exact ze5|fail)
    all_goals exact zp (by first|rfl|rw[hall])

@[reducible] def XW (o:Option Jy):List AV:=[Y7 (o.getD zR),.d (.b o.isSome)]
theorem QcN{r:Jy}{j:Job}{a b:Int}{l:List Int}(h:Qu j=false):resO r j a b l=none:=by
 unfold resO
 rw[if_neg (by rw[h];simp)]
theorem Qdw{r:Jy}{j:Job}{a b:Int}{l:List Int}(h:Zn r.topo j l=false):resO r j a b l=none:=by
 unfold resO
 rw[if_neg (by rw[h];simp)]
theorem Qnw{r:Jy}{j:Job}{a b:Int}{l:List Int}(h1:Q5 r)(h2:Qu j=true)(h3:Zn r.topo j l=true):resO r j a b l=match Qdq a b j.need l r.profs with
  | none=>none
  | some ps=>match VB r.lics a b j.lic with
   | none=>none
   | some q=>some ⟨r.topo,r.up,ps,q⟩:=by
 unfold resO
 rw[if_pos (by rw[h2,h3,show QnF r=true from pB_t.2 h1];rfl)]
 rfl
theorem Qa4(ps:List (List Pt))(n:Nat)(q:List Pt):(QZ ps).set n [.sl (ptE q)]=QZ (ps.set n q):=by simp[QZ,List.map_set]
structure QtS (r:Jy) (a b:Int) (v:V3) (l:List Int) (i:Nat) (ps:List (List Pt)):Prop where
 le:i<=l.length
 len:ps.length=r.profs.length
 ok:∀j,j<ps.length->Jp (nth ps j)
 eq:Qdq a b v (l.drop i) ps=Qdq a b v l r.profs
theorem QdA{r:Jy}{a b:Int}{v:V3}{l:List Int}{i:Nat}{ps:List (List Pt)}(h:QtS r a b v l i ps)(hi:i<l.length)(hq:VB (nth ps (nth l i).toNat) a b v=none):Qdq a b v l r.profs=none:=by
 rw[<-h.eq,Vh hi,Qdq,hq]
theorem QdK{r:Jy}{a b:Int}{v:V3}{l:List Int}{i:Nat}{ps:List (List Pt)}{q:List Pt}(h:QtS r a b v l i ps)(hi:i<l.length)(hn:(nth l i).toNat<ps.length)(hq:VB (nth ps (nth l i).toNat) a b v=some q):QtS r a b v l (i+1) (ps.set (nth l i).toNat q):=by
 refine⟨by omega,by rw[Xak];exact h.len,fun j hj=>?_,?_⟩
 ·rw[Xak]at hj
  rw[QoO hn]
  split
  ·exact QfJ hq
  ·exact h.ok j hj
 ·rw[<-h.eq,Vh hi]
  conv=>rhs;rw[Qdq,hq]
theorem Qf4{r:Jy}{a b:Int}{v:V3}{l:List Int}{i:Nat}{ps:List (List Pt)}(h:QtS r a b v l i ps)(hi:¬i<l.length):Qdq a b v l r.profs=some ps:=by
 rw[<-h.eq,Xa7 (by omega)]
 rfl
theorem QsX{r:Jy}{j:Job}{a b:Int}{l:List Int}(hr:Q5 r)(hl:l.length<=1000000000):DC Tryz.prog 241 [Y7 r,jobA j,zI a,zI b,zL (intE l),.clo 242 []] (XW (resO r j a b l)):=by
 refine zMC func241 fun w0 Z O=>?_
 have hs:=hr.small
 have c1:=Qcz hr
 have c2:=ZM (j:=j)
 have c3:=QaK (j:=j) hr.topo hl
 cases h2:Qu j with
 | false=>
  rw[h2]at c2
  rw[QcN h2]
  repeat'(first|(refine zhm fun hb=>?_;try exact zab)|refine Q7 ?_|(apply zch;exact zcg)|exact zhk|refine zg3 ?_ ?_|intro _|fail)
  exact zDR
 | true=>
  rw[h2]at c2
  cases h3:Zn r.topo j l with
  | false=>
   rw[h3]at c3
   rw[Qdw h3]
   repeat'(first|(refine zhm fun hb=>?_;try exact zab)|refine Q7 ?_|(apply zch;exact zcg)|exact zhk|refine zg3 ?_ ?_|intro _|fail)
   exact zDR
  | true=>
   rw[h3]at c3
   rw[Qnw hr h2 h3]
   have hd:=pB_t.1 h3
   have hjn:1<=j.nodes:=by
    simp only[Qu,Xaf,Yr]at h2
    omega
   have hnum:=hd.num
   have hin0:=hd.nodes 0 (by omega)
   have hpn:=hr.num
   repeat'(first|(refine zhm fun hb=>?_;try exact zab)|refine Qe ?_|(apply zch;exact zcg)|exact zhk|refine zg3 ?_ ?_|refine kmu (Qe2 hr (by omega)) ?_|intro _|fail)
   refine Qa (fun(k:Nat×List (List Pt))=>⟨86,[(2,zI a),(3,zI b),(5,.clo 242 []),(7,.ptr 7 0),(12,.ptr 12 0),(14,.ptr 14 0),(40,zL (intE l)),(41,zI (l.length:Nat)),(42,zI k.1)],[(7,.box 72 ((jobD j).map AV.d)),(12,.box 209 [.nil,.nil,.nil,.nil,.nil]),(14,.box 209 [zL (intE r.topo.parents),zL (Qz r.topo.nodes),zL (Qq r.up),.row 39,zL (ptE r.lics)]),(39,.row 207 (QZ k.2) false)]⟩) (fun k=>QtS r a b j.need l k.1 k.2) (fun k=>l.length-k.1) (0,r.profs) (by exact⟨Xab _,rfl,hr.profs,rfl⟩) ?_ ?_
   ·exact zll
   ·rintro ⟨n,ps⟩ ht
    dsimp only at ht ⊢
    have hle:=ht.le
    have hlen:=ht.len
    have hil:=Qb l
    have hpl:=Qy ps
    by_cases hn':n<l.length
    ·have hin:=hd.nodes n hn'
     have hok:=ht.ok (nth l n).toNat (by omega)
     have hokl:=hok.len
     have c4:=Xx (l:=nth ps (nth l n).toNat) (a:=a) (b:=b) (v:=j.need) (by omega)
     cases hq:VB (nth ps (nth l n).toNat) a b j.need with
     | none=>
      rw[hq]at c4
      rw[QdA ht hn' hq]
      repeat'(first|(refine zhm fun hb=>?_;try exact zab)|refine Q7 ?_|(apply zch;exact zcg)|exact zhk|refine zg3 ?_ ?_|(refine kw [] (c4) rfl rfl rfl rfl rfl (fun i hi=>?_);try dsimp only at hi)|intro _|fail)
      exact zDR
     | some q=>
      rw[hq]at c4
      have hst:=QdK ht hn' (by omega) hq
      repeat'(first|(refine zhm fun hb=>?_;try exact zab)|refine Q7 ?_|(apply zch;exact zcg)|exact zhk|refine zg3 ?_ ?_|(refine kw [] (c4) rfl rfl rfl rfl rfl (fun i hi=>?_);try dsimp only at hi)|intro _|fail)
      refine⟨(n+1,ps.set (nth l n).toNat q),hst,by dsimp only;omega,?_⟩
      refine zag ?_;exact zp (Qa4 _ _ _)
    ·rw[Qf4 ht hn']
     have hll:=hr.lics.len
     have c4:=Xx (l:=r.lics) (a:=a) (b:=b) (v:=j.lic) (by omega)
     cases hq:VB r.lics a b j.lic with
     | none=>
      rw[hq]at c4
      repeat'(first|(refine zhm fun hb=>?_;try exact zab)|refine Q7 ?_|(apply zch;exact zcg)|exact zhk|refine zg3 ?_ ?_|(refine kw [] (c4) rfl rfl rfl rfl rfl (fun i hi=>?_);try dsimp only at hi)|intro _|fail)
      exact zDR
     | some q=>
      rw[hq]at c4
      repeat'(first|(refine zhm fun hb=>?_;try exact zab)|refine Q7 ?_|(apply zch;exact zcg)|exact zhk|refine zg3 ?_ ?_|(refine kw [] (c4) rfl rfl rfl rfl rfl (fun i hi=>?_);try dsimp only at hi)|intro _|fail)
      show AWp _ _ _ _
      refine Qs 39 rfl ?_
      exact zDR

theorem Qc9{r:Jy}{j:Job}{a:Int}{l:List Int}(hr:Q5 r)(hl:l.length<=1000000000)(ha:0<=a/\a<=1000000000):DC Tryz.prog 225 [Y7 r,jobA j,zI a,zL (intE l)] (XW (resO r j a (a+j.wall) l)):=by
 refine zMC func225 fun w0 Z O=>?_
 have hs:=hr.small
 have c1:=QdY (j:=j) hr hl
 have c2:=Y1 (x:=a)
 rw[show inB a 0 1000000000=true by rw[Yr];exact ha]at c2
 cases h2:Qu j with
 | false=>
  rw[h2,Xb7]at c1
  rw[QcN h2]
  repeat'(first|(refine zhm fun hb=>?_;try exact zab)|refine Q7 ?_|(apply zch;exact zcg)|exact zhk|refine zg3 ?_ ?_|intro _|fail)
  exact zDR
 | true=>
  cases h3:Zn r.topo j l with
  | false=>
   rw[h2,h3,Xbx]at c1
   rw[Qdw h3]
   repeat'(first|(refine zhm fun hb=>?_;try exact zab)|refine Q7 ?_|(apply zch;exact zcg)|exact zhk|refine zg3 ?_ ?_|intro _|fail)
   exact zDR
  | true=>
   rw[h2,h3,Xbx]at c1
   rw[Qnw hr h2 h3]
   have hd:=pB_t.1 h3
   have hjb:=h2
   simp only[Qu,Xaf,Yr]at hjb
   have hjw:1<=j.wall/\j.wall<=1000000:=hjb.1.2
   have hjn:1<=j.nodes:=by omega
   have hnum:=hd.num
   have hin0:=hd.nodes 0 (by omega)
   have hpn:=hr.num
   repeat'(first|(refine zhm fun hb=>?_;try exact zab)|refine Qe ?_|(apply zch;exact zcg)|exact zhk|refine zg3 ?_ ?_|refine kmu (Qdr hr (by omega)) ?_|intro _|fail)
   refine Qa (fun(k:Nat×List (List Pt))=>⟨80,[(2,zI a),(5,.ptr 5 0),(8,.ptr 8 0),(10,.ptr 10 0),(30,zL (intE l)),(31,zI (l.length:Nat)),(32,zI k.1)],[(5,.box 72 ((jobD j).map AV.d)),(8,.box 209 [.nil,.nil,.nil,.nil,.nil]),(10,.box 209 [zL (intE r.topo.parents),zL (Qz r.topo.nodes),zL (Qq r.up),.row 29,zL (ptE r.lics)]),(29,.row 207 (QZ k.2) false)]⟩) (fun k=>QtS r a (a+j.wall) j.need l k.1 k.2) (fun k=>l.length-k.1) (0,r.profs) (by exact⟨Xab _,rfl,hr.profs,rfl⟩) ?_ ?_
   ·exact zll
   ·rintro ⟨n,ps⟩ ht
    dsimp only at ht ⊢
    have hle:=ht.le
    have hlen:=ht.len
    have hil:=Qb l
    have hpl:=Qy ps
    by_cases hn':n<l.length
    ·have hin:=hd.nodes n hn'
     have hok:=ht.ok (nth l n).toNat (by omega)
     have hokl:=hok.len
     have c4:=QeM (l:=nth ps (nth l n).toNat) (a:=a) (b:=a+j.wall) (v:=j.need) (by omega)
     cases hq:VB (nth ps (nth l n).toNat) a (a+j.wall) j.need with
     | none=>
      rw[hq]at c4
      rw[QdA ht hn' hq]
      repeat'(first|(refine zhm fun hb=>?_;try exact zab)|refine Qfn ?_|(apply zch;exact zcg)|exact zhk|refine zg3 ?_ ?_|refine kmu c4 ?_|intro _|fail)
      exact zDR
     | some q=>
      rw[hq]at c4
      have hst:=QdK ht hn' (by omega) hq
      repeat'(first|(refine zhm fun hb=>?_;try exact zab)|refine Qfn ?_|(apply zch;exact zcg)|exact zhk|refine zg3 ?_ ?_|refine kmu c4 ?_|intro _|fail)
      refine⟨(n+1,ps.set (nth l n).toNat q),hst,by dsimp only;omega,?_⟩
      refine zag ?_;exact zp (Qa4 _ _ _)
    ·rw[Qf4 ht hn']
     have hll:=hr.lics.len
     have c4:=QeM (l:=r.lics) (a:=a) (b:=a+j.wall) (v:=j.lic) (by omega)
     cases hq:VB r.lics a (a+j.wall) j.lic with
     | none=>
      rw[hq]at c4
      repeat'(first|(refine zhm fun hb=>?_;try exact zab)|refine Qfn ?_|(apply zch;exact zcg)|exact zhk|refine zg3 ?_ ?_|refine kmu c4 ?_|intro _|fail)
      exact zDR
     | some q=>
      rw[hq]at c4
      repeat'(first|(refine zhm fun hb=>?_;try exact zab)|refine Qfn ?_|(apply zch;exact zcg)|exact zhk|refine zg3 ?_ ?_|refine kmu c4 ?_|intro _|fail)
      show AWp _ _ _ _
      refine Qs 29 rfl ?_
      exact zDR
end
end Go.Proofs.YtihgfennoalocaaGreat
