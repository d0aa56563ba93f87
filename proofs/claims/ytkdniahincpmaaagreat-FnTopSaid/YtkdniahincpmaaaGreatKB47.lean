/-
  Plain law: a crash while a command is taken leaves the state ahead of it or behind it.
-/
import Derived.Test.YtkdniahincpmaaaGreatKB43
import Derived.Test.YtkdniahincpmaaaGreatKDwC
set_option maxRecDepth 100000
set_option maxHeartbeats 16000000
namespace Go.Proofs.YtkdniahincpmaaaGreat
open Go Go.RowKit Tryz
section

theorem Qtu{b u:List UInt8}(h:∀c∈u,(c.toNat:Int)≠10):eol (b++u) b.length=(b++u).length:=by
 obtain⟨d,h2,g⟩:=Qd0 (b:=b++u) (i:=b.length) (by rw[Xaa];omega)
 rcases Nat.lt_or_ge (eol (b++u) b.length) (b++u).length with hl|hl
 ·exfalso
  have a:=g hl
  unfold nlAt at a
  generalize eol (b++u) b.length=e at d hl a
  rw[Xaa]at hl
  have f:nth (b++u) e=u[e-b.length]'(by omega):=by
   rw[Jb (by rw[Xaa];omega),List.getElem_append_right d]
  rw[f]at a
  exact h _ (Xbk _) a
 ·omega
theorem QnJ{b u:List UInt8}{R:List (List UInt8)}(h:Q5 b=(R,b.length))(hu:∀c∈u,(c.toNat:Int)≠10):Q5 (b++u)=(R,b.length):=by
 have a:=QhY b u
 rw[h]at a
 exact Qan a (Qtu hu)
theorem Qno{c d:Ctl}{x:Cmd}{keep:Int}(hok:J9 c=true)(hsy:c.jn.synced=c.jn.bytes.length)(ht:(Jl c x).1=some d) :
  ∃s,Yr c.first (d.jn.bytes.take (JO d.jn keep))=(some ⟨c.first,s,WF (d.jn.bytes.take (JO d.jn keep))⟩,0)/\
   ((d.jn.bytes.take (JO d.jn keep)).length=d.jn.bytes.length->s=d.state/\J9 ⟨c.first,s,WF (d.jn.bytes.take (JO d.jn keep))⟩=true)/\
   ((d.jn.bytes.take (JO d.jn keep)).length≠d.jn.bytes.length->s=c.state/\(d.jn.bytes.take (JO d.jn keep)).length<d.jn.bytes.length):=by
 obtain⟨l,z,p,k4⟩:=Wv.1 hok
 obtain⟨t,m,j,n,_⟩:=Xw hok ht
 obtain⟨s',h1,u,rfl,_⟩:=JU ht
 dsimp only at t m j n ⊢
 obtain⟨a1,a2,r,a4⟩:=Ws.1 z
 obtain⟨i,_,_,_⟩:=Ws.1 m
 obtain⟨_,f,_⟩:=Qdh u
 have o:c.jn.bytes.length<=JO (Yq c.jn (Qq x)) keep:=by
  unfold JO
  show c.jn.bytes.length<=(c.jn.synced+_).toNat
  have:0<=min (max keep 0) (((Yq c.jn (Qq x)).bytes.length:Int)-(Yq c.jn (Qq x)).synced):=by
   have:(Yq c.jn (Qq x)).synced=c.jn.synced:=rfl
   simp only[Yq,Xaa]at *
   omega
  omega
 generalize JO (Yq c.jn (Qq x)) keep=k at o ⊢
 by_cases g:((Yq c.jn (Qq x)).bytes.take k).length=(Yq c.jn (Qq x)).bytes.length
 ·have e:(Yq c.jn (Qq x)).bytes.take k=(Yq c.jn (Qq x)).bytes:=Xas (by rw[Xah]at g;omega)
  refine⟨s',?_,fun _=>⟨rfl,?_⟩,fun h=>absurd g h⟩
  all_goals rw[e]
  ·exact QdH l i j
  ·exact Wv.2 ⟨l,Qiv i,by rw[QdQ];exact j,n⟩
 ·have a:k<(Yq c.jn (Qq x)).bytes.length:=by rw[Xah]at g;omega
  have e:(Yq c.jn (Qq x)).bytes.take k=c.jn.bytes++(hdT c.jn.count.toNat++Qq x).take (k-c.jn.bytes.length):=by
   have hb:(Yq c.jn (Qq x)).bytes=c.jn.bytes++(hdT c.jn.count.toNat++Qq x++[10]):=rfl
   rw[hb]at a ⊢
   simp only[Xaa,Xap]at a
   rw[XcM,Xas o,Xa5 (by simp only[Xaa,Xap];omega)]
  have y:∀q∈(hdT c.jn.count.toNat++Qq x).take (k-c.jn.bytes.length),(q.toNat:Int)≠10:=fun q hq=>by
   rcases Xag.1 (XaC hq)with h|h
   ·exact QuQ _ q h
   ·exact Qux f q h
  have w:=QnJ (b:=c.jn.bytes) (R:=(Q5 c.jn.bytes).1) (by rw[<-r]) y
  have v:V2 c.first ((Yq c.jn (Qq x)).bytes.take k)=some c.state:=by
   unfold V2 at p ⊢
   rw[e,w]
   exact p
  exact⟨c.state,QdH l (Xal (Xbg _ _) i) v,fun h=>absurd h g,fun _=>⟨rfl,by rw[Xah];omega⟩⟩
end
section
attribute [local irreducible] AWp QI OpOk ACalls ChA QsOk MCalls NCalls EnC PY

theorem Qsy(n:Nat):Qp (List.replicate n true)++[[.b true]]=Qp (List.replicate (n+1) true):=by
 rw[Xcs,Qp,Qp,XaG]
 rfl
theorem QqV(n:Nat):(Qp (List.replicate n true)).length=n:=by rw[Qx,Xbd]
theorem Qre(n:Nat):slV n (Qp (List.replicate 0 true))=.nil:=rfl
theorem QqB(n:Nat)(e:TypeId):slW n e (Qp (List.replicate 0 true))=[]:=rfl
theorem Qps(n k:Nat):slV n (Qp (List.replicate (k+1) true))=.row n:=rfl
theorem QqG(n k:Nat)(e:TypeId):slW n e (Qp (List.replicate (k+1) true))=[(n,.row e (Qp (List.replicate (k+1) true)) true)]:=rfl
abbrev stI(t:QT)(lic:V3)(d:Int):Qb:=⟨t,List.replicate t.nodes.length true,lic,d,0,[],[],[]⟩
abbrev snB(t:QT)(lic:V3)(d:Int)(n:Nat):List (Nat×AO):=[(6,.box 34 ctl0),(8,.box 34 [zL (intE t.parents),zL (Qw t.nodes),slV 21 (Qp (List.replicate n true)),zI lic.a,zI lic.b,zI lic.c,zI d,zI 0,.nil,.nil,.nil])]++slW 21 4 (Qp (List.replicate n true))
theorem QnF{t:QT}{lic:V3}{d:Int}(h1:t.parents.length<=1048576)(h2:t.nodes.length<=1048576):DC Tryz.prog 170 [YT t,vecA lic,zI d] [Qt (Qje t lic d),.d (.b (Qe (stI t lic d)))]:=by
 refine zMC func170 fun w0 Z O=>?_
 have m:=Qz t.nodes
 repeat'(first|(refine zhm fun hb=>?_;try exact zab)|refine Qd ?_|(apply zch;exact zcg)|exact zhk|refine zg3 ?_ ?_|intro _)
 refine Qa (fun(k:Nat)=>⟨30,[(6,.ptr 6 0),(8,.ptr 8 0),(15,zI (t.nodes.length:Nat)),(16,zI k)],snB t lic d k⟩) (fun k=>k<=t.nodes.length) (fun k=>t.nodes.length-k) 0 (Xad _) ?_ ?_
 ·exact zll
 ·intro k hk
  have n:=QqV k
  have o:(List.replicate k true).length=k:=Xbd
  have i:Qj 100000000 (stI t lic d):=⟨by dsimp only;omega,by dsimp only;omega,by dsimp only;rw[Xbd];omega,Xad _,Xad _,Xad _,fun j hj=>absurd hj (Xar _)⟩
  have f:=Yl i
  have g:=YX i
  by_cases l:k<t.nodes.length
  ·have h:=Qsy k
   cases k with
   | zero=>
    simp only[snB,Qre,QqB,XaS]
    repeat'(first|(refine zhm fun hb=>?_;try exact zab)|refine Qd ?_|(apply zch;exact zcg)|exact zhk|refine zg3 ?_ ?_|intro _)
    exact⟨1,by omega,by omega,zll⟩
   | succ k=>
    simp only[snB,Qps,QqG,Xa0,XaR]
    repeat'(first|(refine zhm fun hb=>?_;try exact zab)|refine Qd ?_|(apply zch;exact zcg)|exact zhk|refine zg3 ?_ ?_|intro _)
    refine⟨k+2,by omega,by omega,?_⟩
    refine zag ?_;exact zp h
  ·have a:t.nodes.length=k:=by omega
   have e:stI t lic d=⟨t,List.replicate k true,lic,d,0,[],[],[]⟩:=by unfold stI;rw[a]
   unfold Qje
   cases c:Qe (stI t lic d) with
   | true=>
    rw[c]at f
    rw[if_pos rfl,a]
    rw[e]at f g
    cases k with
    | zero=>
     simp only[snB,Qre,QqB,XaS]
     refine QA ?_
     repeat'(first|(refine zhm fun hb=>?_;try exact zab)|refine QR ?_|(apply zch;exact zcg)|exact zhk|refine zg3 ?_ ?_|refine kmu g ?_|intro _)
     exact zDR
    | succ k=>
     simp only[snB,Qps,QqG,Xa0,XaR]
     refine Qr 21 rfl ?_
     refine QA ?_
     repeat'(first|(refine zhm fun hb=>?_;try exact zab)|refine QR ?_|(apply zch;exact zcg)|exact zhk|refine zg3 ?_ ?_|refine kmu g ?_|intro _)
     exact zDR
   | false=>
    rw[c]at f
    rw[if_neg (by decide)]
    rw[e]at f
    cases k with
    | zero=>
     simp only[snB,Qre,QqB,XaS]
     refine QA ?_
     repeat'(first|(refine zhm fun hb=>?_;try exact zab)|refine QR ?_|(apply zch;exact zcg)|exact zhk|refine zg3 ?_ ?_|intro _)
     exact zDR
    | succ k=>
     simp only[snB,Qps,QqG,Xa0,XaR]
     refine Qr 21 rfl ?_
     refine QA ?_
     repeat'(first|(refine zhm fun hb=>?_;try exact zab)|refine QR ?_|(apply zch;exact zcg)|exact zhk|refine zg3 ?_ ?_|intro _)
     exact zDR
theorem Qmx{b:List UInt8}{i h:Int}(hL:b.length<=1048576)(hI:0<=i/\i<=b.length):MCalls Tryz.prog 92 [.ptr 1000000 0] [(1000000,curO b i h)] (fun(x:Qb×Int×Int)=>match x with|(s,p,q)=>(stF b (i,h)=(s,p,q)/\Qj 1048576 s)/\0<=p/\p<=b.length) (fun x=>match x with|(s,_,_)=>[Qt s]) (fun x=>match x with|(_,p,q)=>[(1000000,curO b p q)]) (fun _=>[]):=by
 refine Js tt func92 rfl rfl rfl ⟨rfl,trivial⟩ (fun _ _=>⟨⟨⟨rfl,rfl,rfl⟩,trivial⟩,rfl,trivial⟩) (fun w0 Z O=>?_)
 repeat'(first|(refine zhm fun hb=>?_;try exact zab)|refine Qd ?_|(apply zch;exact zcg)|exact zhk|refine zg3 ?_ ?_|(refine km [1000000] (Qrn hL (by omega)) rfl rfl (fun i hi=>?_) (hob:=rfl);obtain⟨a,g,f⟩:=i;(try dsimp only at hi))|intro _)
 obtain⟨t,rfl⟩:∃z,z=a:=⟨a,rfl⟩
 have ht:=hi
 have e:=fun x y d=>QnF (t:=t) (lic:=⟨x,y,1⟩) (d:=d) (by omega) (by omega)
 repeat'(first|(refine zhm fun hb=>?_;try exact zab)|refine Qd ?_|(apply zch;exact zcg)|exact zhk|refine zg3 ?_ ?_|(refine km [1000000] (Jk hL (by omega)) rfl rfl (fun i hi=>?_) (hob:=rfl);obtain⟨a,g,f⟩:=i;(try dsimp only at hi))|(refine km [] (e _ _ _) rfl rfl (fun i hi=>?_);try dsimp only at hi)|intro _)
 refine zp ?_
 refine' Yc ⟨Qje _ ⟨_,_,1⟩ _,_,_⟩ _ [] rfl ?_
 any_goals refine QcL.mk ?_ ?_ ?_ ?_ ?_
 any_goals (refine WD.mk ?_;(try dsimp only[Qt,Q3]);exact rfl)
 repeat'(first|apply And.intro|exact zeb|refine zec ?_|exact zen|refine zeo ?_|exact zes|refine zet ?_|exact zel|refine zem ?_|exact zep|refine zeq1 ?_|refine zea ?_|refine zei ?_ ?_|refine zex ?_|(apply Q9;iterate 3 exact rfl)|exact rfl|exact trivial)
 all_goals first|exact zp rfl|(refine WD.mk ?_;exact⟨⟨Qzx (aL (aL (by assumption))) (aL (by assumption)) (aL (by assumption)) (aL (by assumption)),Qxa (by omega) (by omega)⟩,by omega⟩)
structure Qxm (c:Ctl):Prop where
 small:Yb 1048576 c
 sync:c.jn.synced=c.jn.bytes.length
 now:0<=c.state.now/\c.state.now<=1000000000
 cnt:0<=c.jn.count
theorem Qp1{s:Qb}(h:Qe s=true):0<=s.now/\s.now<=1000000000:=by
 obtain⟨r,a⟩:=XaO.1 (pB_t.1 h).room
 exact(QqD a).now
theorem QxS{s:Qb}(h:Qj 1048576 s):Qxm (ctl1 s):=by
 unfold ctl1
 split
 ·rename_i a
  exact⟨⟨h,h,Xad _⟩,rfl,Qp1 (QgB a),Xbe _⟩
 ·exact⟨QjF _,rfl,by decide,by decide⟩
theorem Qvs{c d:Ctl}{x:Cmd}{k:Int}(h:Qxm c)(ht:ZR c x=(some d,k)):Qxm d/\k=0:=by
 unfold ZR at ht
 split at ht
 ·rename_i e
  cases a:(Jl c x).1 with
  | none=>rw[a]at ht;cases ht
  | some d'=>
   obtain⟨_,_,_,_,f⟩:=JU a
   rw[a,f]at ht
   injection ht with h6 h7
   injection h6 with h6
   subst h6
   obtain⟨b,g2,g3⟩:=JZ h.small a
   obtain⟨_,g,_,i,_⟩:=Xw e a
   obtain⟨_,_,_,a4⟩:=Ws.1 g
   exact⟨⟨⟨b.first,b.state,b.jn⟩,rfl,Qp1 i,by show 0<=d'.jn.count;omega⟩,h7.symm⟩
 ·cases ht
theorem Qwc{c:Ctl}{x:Cmd}{k:Int}(ht:ZR c x=(none,k)):k≠0:=by
 unfold ZR at ht
 split at ht
 ·rename_i b
  cases a:(Jl c x).1 with
  | none=>
   have:=YN a
   rw[a]at ht
   injection ht with h6 h7
   exact h7▸this
  | some d'=>rw[a]at ht;cases ht
 ·injection ht with h6 h7
  omega
theorem QqN{b:List UInt8}{i h m:Int}(hL:b.length<=1048576)(hI:0<=i/\i<=b.length)(hm:0<=m/\m<=1000):MCalls Tryz.prog 34 [.ptr 1000000 0,zI m] [(1000000,curO b i h)] (fun(x:Ctl×Int×Int)=>match x with|(c,p,_)=>Qxm c/\0<=p/\p<=b.length) (fun x=>match x with|(c,_,_)=>[ctlA c]) (fun x=>match x with|(_,p,q)=>[(1000000,curO b p q)]) (fun _=>[]):=by
 refine Js tt func34 rfl rfl rfl ⟨rfl,trivial⟩ (fun _ _=>⟨⟨⟨rfl,rfl,rfl⟩,trivial⟩,rfl,trivial⟩) (fun w0 Z O=>?_)
 repeat'(first|(refine zhm fun hb=>?_;try exact zab)|refine Qd ?_|(apply zch;exact zcg)|exact zhk|refine zg3 ?_ ?_|(refine km [1000000] (Qmx hL (by omega)) rfl rfl (fun i hi=>?_) (hob:=rfl);obtain⟨l,v,u⟩:=i;(try dsimp only at hi))|intro _)
 obtain⟨s1,rfl⟩:∃z,z=l:=⟨l,rfl⟩
 have j:=hi
 have w:=QsU (j.1.2.mono (m:=100000000) (by omega))
 repeat'(first|(refine zhm fun hb=>?_;try exact zab)|refine Qd ?_|(apply zch;exact zcg)|exact zhk|refine zg3 ?_ ?_|refine kmu w ?_|(refine km [1000000] (Jk hL (by omega)) rfl rfl (fun i hi=>?_) (hob:=rfl);obtain⟨l,v,u⟩:=i;(try dsimp only at hi))|intro _)
 obtain⟨n1,rfl⟩:∃z,z=l:=⟨l,rfl⟩
 have aa:=hi
 refine Qa (fun(x:Nat×Ctl×Int×Int)=>match x with|(n,c,p,q)=>⟨37,[(0,.ptr 1000000 0),(4,.ptr 4 0),(5,.ptr 5 0),(7,zI n)],[(4,.box 38 ctl00),(5,.box 38 (ctlC c)),(1000000,curO b p q)]⟩) (fun x=>match x with|(n,c,p,_)=>Qxm c/\n<=2000/\0<=p/\p<=b.length) (fun x=>x.1) (n1.toNat,ctl1 s1,v,u) (by exact⟨QxS j.1.2,by omega⟩) ?_ ?_
 ·exact zll
 ·rintro ⟨n,c,p,q⟩ ⟨a,ab,g⟩
  dsimp only
  cases n with
  | zero=>
   repeat'(first|(refine zhm fun hb=>?_;try exact zab)|refine Qd ?_|(apply zch;exact zcg)|exact zhk|refine zg3 ?_ ?_|intro _)
   refine zp ?_
   refine' Yc ⟨c,_,_⟩ _ [] rfl ?_
   any_goals refine QcL.mk ?_ ?_ ?_ ?_ ?_
   any_goals (refine WD.mk ?_;(try dsimp only[ctlA]);exact rfl)
   repeat'(first|apply And.intro|exact zeb|refine zec ?_|exact zen|refine zeo ?_|exact zes|refine zet ?_|exact zel|refine zem ?_|exact zep|refine zeq1 ?_|refine zea ?_|refine zei ?_ ?_|refine zex ?_|(apply Q9;iterate 3 exact rfl)|exact rfl|exact trivial)
   all_goals first|exact zp rfl|(refine WD.mk ?_;exact⟨a,by omega⟩)
  | succ n=>
   obtain⟨⟨x,p2,q2⟩,hx⟩:∃r,Vr b c.state (p,q)=r:=⟨_,rfl⟩
   have f:=Qgw c.state g hx
   have t:=Qyh hL g a.small.state a.now hx
   have e:=Qva (x:=x) a.small
   cases s:ZR c x with
   | mk o k=>
    rw[s]at e
    cases o with
    | none=>
     have hk:=Qwc s
     dsimp only[Option.getD]at e
     repeat'(first|(apply Y9;iterate 10 exact rfl)|(refine zhm fun hb=>?_;try exact zab)|refine Qd ?_|(apply zchP 1000000;exact zcg)|(apply zch;exact zcg)|exact zhk|refine zg3 ?_ ?_|(refine km [1000000] (t) rfl rfl (fun i hi=>?_);try dsimp only at hi)|refine kmu e ?_|intro _)
     all_goals first|(exfalso;omega)|skip
     refine⟨(n,c,p2,q2),⟨a,by dsimp only;omega,f⟩,by dsimp only;omega,?_⟩
     exact zll
    | some d=>
     obtain⟨y,rfl⟩:=Qvs a s
     dsimp only[Option.getD]at e
     repeat'(first|(apply Y9;iterate 10 exact rfl)|(refine zhm fun hb=>?_;try exact zab)|refine Qd ?_|(apply zchP 1000000;exact zcg)|(apply zch;exact zcg)|exact zhk|refine zg3 ?_ ?_|(refine km [1000000] (t) rfl rfl (fun i hi=>?_);try dsimp only at hi)|refine kmu e ?_|intro _)
     all_goals first|(exfalso;omega)|skip
     refine⟨(n,d,p2,q2),⟨y,by dsimp only;omega,f⟩,by dsimp only;omega,?_⟩
     exact zll
theorem Qnm{b:List UInt8}(hL:b.length<=1048576):MCalls Tryz.prog 7 [zL (QK b)] [] (fun(x:Ctl×Cmd×Int)=>Qxm x.1) (fun x=>[ctlA x.1,cmdA x.2.1,zI x.2.2]) (fun _=>[]) (fun _=>[]):=by
 refine zMC func7 fun w0 Z O=>?_
 repeat'(first|(refine zhm fun hb=>?_;try exact zab)|refine Qd ?_|(apply zch;exact zcg)|exact zhk|refine zg3 ?_ ?_|(refine km [] (QmC hL) rfl rfl (fun i hi=>?_);try dsimp only at hi)|(refine km [11] (QqN hL (by omega) (by omega)) rfl rfl (fun i hi=>?_) (hob:=rfl);obtain⟨a,h,g⟩:=i;(try dsimp only at hi))|intro _)
 obtain⟨f,s,⟨j,q,k⟩⟩:=a
 obtain⟨d,p⟩:=hi
 obtain⟨n,rfl⟩:∃n:Nat,k=n:=Int.eq_ofNat_of_zero_le d.cnt
 have o:=Qs n
 dsimp only
 repeat'(first|(refine zhm fun hb=>?_;try exact zab)|refine zUtp ?_|refine zg2 ?_ ?_|(refine km [11] (Qd1 hL (by omega) d.small.state d.now) rfl rfl (fun i hi=>?_) (hob:=rfl);obtain⟨a,h,g⟩:=i;(try dsimp only at hi))|intro _)
 obtain⟨x,rfl⟩:∃z,z=a:=⟨a,rfl⟩
 have m:=QaR x
 have e:(hdT n++Qq x++[10]).length<=2000:=by
  simp only[hdT,Xaa,Xap]
  omega
 have l:=VF (n:=n) (s:=Qq x) (by omega)
 have ck:=ZC (c:=x)
 generalize hdT n++Qq x++[10]=r at e l
 repeat'(first|(refine zhm fun hb=>?_;try exact zab)|refine Qd ?_|(apply zch;exact zcg)|exact zhk|refine zg3 ?_ ?_|(refine km [11] (Jk hL (by omega)) rfl rfl (fun i hi=>?_) (hob:=rfl);obtain⟨a,h,g⟩:=i;(try dsimp only at hi))|intro _)
 all_goals
  refine zp ?_
  refine' Yc ⟨⟨f,s,⟨j,q,(n:Int)⟩⟩,x,_⟩ _ [] rfl ?_
  any_goals refine QcL.mk ?_ ?_ ?_ ?_ ?_
  any_goals (refine WD.mk ?_;(try dsimp only[ctlA,ctlC,Q3,jnC,cmdA]);exact rfl)
  repeat'(first|apply And.intro|exact zeb|refine zec ?_|exact zen|refine zeo ?_|exact zes|refine zet ?_|exact zel|refine zem ?_|exact zep|refine zeq1 ?_|refine zea ?_|refine zei ?_ ?_|refine zex ?_|(apply Q9;iterate 3 exact rfl)|exact rfl|exact trivial)
  all_goals first|exact zp rfl|(refine WD.mk ?_;exact d)
end
end Go.Proofs.YtkdniahincpmaaaGreat
