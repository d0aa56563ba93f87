/-
  Draws: a topology, a state, a controller; walks.
-/
import Derived.Test.YtkdniahincpmaaaGreatKB46
set_option maxRecDepth 100000
set_option maxHeartbeats 16000000
namespace Go.Proofs.YtkdniahincpmaaaGreat
open Go Go.RowKit Tryz
section
attribute [local irreducible] AWp QI OpOk ACalls ChA QsOk MCalls NCalls EnC PY QE WB

def slV(n:Nat)(es:List (List D)):AV:=match es with
 | []=>.nil
 | _::_=>.row n
def slW(n:Nat)(e:TypeId)(es:List (List D)):List (Nat×AO):=match es with
 | []=>[]
 | _::_=>[(n,.row e es true)]
theorem Qpm(n:Nat):slV n (Qw [])=.nil:=rfl
theorem QpP(n:Nat)(e:TypeId):slW n e (Qw [])=[]:=rfl
theorem QlZ(n:Nat)(x:Qax)(l:List Qax):slV n (Qw (x::l))=.row n:=rfl
theorem Qlt(n:Nat)(e:TypeId)(x:Qax)(l:List Qax):slW n e (Qw (x::l))=[(n,.row e (Qw (x::l)) true)]:=rfl
theorem Qgk(l:List Qax)(n:Qax):Qw l++[[.n .i64 n.leaf,.n .i64 n.cap.a,.n .i64 n.cap.b,.n .i64 n.cap.c]]=Qw (l++[n]):=by simp[Qw]
theorem Qw9{s:Int}{n:Nat}{par nx:List Int}(h0:n≠0)(h:par.length<18):ZN s n par nx=ZN s (n-1) (par++[s]) (nx++[(par.length:Int)]):=by
 obtain⟨n,rfl⟩:=Nat.exists_eq_succ_of_ne_zero h0
 rw[ZN,if_pos h]
 rfl
theorem Qv9{s:Int}{n:Nat}{par nx:List Int}(h0:n≠0)(h:¬par.length<18):ZN s n par nx=(par,nx):=by
 obtain⟨n,rfl⟩:=Nat.exists_eq_succ_of_ne_zero h0
 rw[ZN,if_neg h]
theorem QxQ{b:List UInt8}{s v:Int}{l par nx:List Int}{c d:Cu}{r:List Int×List Int}(h:QE b c 3=(v,d))(hg:ZN s (1+v).toNat par nx=r):rowG b (s::l) par nx c=rowG b l r.1 r.2 d:=by
 rw[rowG,h,hg]
theorem QxF{b:List UInt8}{k:Nat}{par last par' nx:List Int}{c d:Cu}(h:rowG b last par [] c=((par',nx),d)):lvlG b (k+1) par last c=lvlG b k par' (if nx=[]then last else nx) d:=by
 rw[lvlG,h]
theorem Qu8{b:List UInt8}{par last:List Int}{n:Nat}{ns:List Qax}{c d e f g:Cu}{j x y z:Int}(hn:n≠0)(h0:QE b c last.length=(j,d))(hk:(Z3 par (nth last j.toNat)).length=0)(h1:QE b d 5=(x,e))(h2:QE b e 9=(y,f))(h3:QE b f 3=(z,g)):nodG b par last n ns c=nodG b par last (n-1) (ns++[⟨nth last j.toNat,⟨addN 4 x,addN 8 y,z⟩⟩]) g:=by
 obtain⟨n,rfl⟩:=Nat.exists_eq_succ_of_ne_zero hn
 rw[nodG]
 unfold dr
 rw[h0]
 dsimp only
 rw[if_pos (Xbh.1 hk),h1]
 dsimp only
 rw[h2]
 dsimp only
 rw[h3]
 rfl
theorem QuF{b:List UInt8}{par last:List Int}{n:Nat}{ns:List Qax}{c d:Cu}{j:Int}(hn:n≠0)(h0:QE b c last.length=(j,d))(hk:(Z3 par (nth last j.toNat)).length≠0):nodG b par last n ns c=nodG b par last (n-1) ns d:=by
 obtain⟨n,rfl⟩:=Nat.exists_eq_succ_of_ne_zero hn
 rw[nodG]
 unfold dr
 rw[h0]
 dsimp only
 rw[if_neg (fun e=>hk (by rw[e];rfl))]
 rfl
abbrev tpB(par:List Int)(b:List UInt8)(p q:Int):List (Nat×AO):=[(2,.box 26 [.nil,.nil]),(3,.box 26 [.row 13,.nil]),(13,.row 3 (intE par) true),(1000000,curO b p q)]
abbrev TL(b:List UInt8)(par:List Int)(p:Int):Prop:=(0<par.length/\par.length<=18)/\0<=p/\p<=b.length
theorem Qrn{b:List UInt8}{i h:Int}(hL:b.length<=1048576)(hI:0<=i/\i<=b.length):MCalls Tryz.prog 171 [.ptr 1000000 0] [(1000000,curO b i h)] (fun(x:QT×Int×Int)=>match x with|(t,p,q)=>(topF b (i,h)=(t,p,q)/\t.parents.length<=18/\t.nodes.length<=10)/\0<=p/\p<=b.length) (fun x=>match x with|(t,_,_)=>[YT t]) (fun x=>match x with|(_,p,q)=>[(1000000,curO b p q)]) (fun _=>[]):=by
 refine Js tt func171 rfl rfl rfl ⟨rfl,trivial⟩ (fun _ _=>⟨⟨⟨rfl,rfl,rfl⟩,trivial⟩,rfl,trivial⟩) (fun w0 Z O=>?_)
 repeat'(first|(refine Qh 4 17 rfl ?_)|refine zst ?_|(refine zhm fun hb=>?_;try exact zab)|refine zdr ?_|(apply zch;exact zcg)|refine VC.mk fun w0 Z O=>?_|exact zhk|refine zg3 ?_ ?_|refine zln fun _=>?_|refine zop ?_|(refine km [1000000] (Jk hL (by omega)) rfl rfl (fun i hi=>?_) (hob:=rfl);obtain⟨iv,ip,y⟩:=i;(try dsimp only at hi))|fail)
 obtain⟨lv,rfl⟩:∃z,z=iv:=⟨iv,rfl⟩
 have ax:=hi
 obtain⟨⟨⟨par',last'⟩,p',q'⟩,hR⟩:∃R,lvlG b lv.toNat [0] [0] (ip,y)=R:=⟨_,rfl⟩
 refine Qa (fun(x:Nat×List Int×List Int×Int×Int)=>match x with|(k,c,a,p,q)=>⟨97,[(0,.ptr 1000000 0),(2,.ptr 2 0),(3,.ptr 3 0),(4,zI lv),(5,zL (intE a)),(6,zI k)],tpB c b p q⟩) (fun x=>match x with|(k,c,a,p,q)=>((k:Int)<=lv/\TL b c p/\0<a.length/\a.length<=18)/\lvlG b (lv.toNat-k) c a (p,q)=((par',last'),p',q')) (fun x=>lv.toNat-x.1) (0,[0],[0],ip,y) (by exact⟨⟨by omega,⟨⟨by decide,by decide⟩,by omega⟩,by decide,by decide⟩,hR⟩) ?_ ?_
 ·exact⟨rfl,zae,zae,rfl⟩
 ·rintro ⟨k,c,a,p,q⟩ ⟨⟨hk,⟨⟨g,d⟩,ab⟩,au,av⟩,w⟩
  dsimp only
  have aw:=Qc a
  by_cases a8:(k:Int)<lv
  ·obtain⟨⟨⟨par2,nx2⟩,p2,q2⟩,hM⟩:∃R,rowG b a c [] (p,q)=R:=⟨_,rfl⟩
   rw[show lv.toNat-k=(lv.toNat-(k+1))+1 by omega,QxF hM]at w
   repeat'(first|refine zst ?_|(refine zhm fun hb=>?_;try exact zab)|refine zdr ?_|(apply zch;exact zcg)|refine VC.mk fun w0 Z O=>?_|exact zhk|refine zg3 ?_ ?_|refine zln fun _=>?_|refine zop ?_|fail)
   refine Qa (fun(x:Nat×List Int×List Int×Int×Int)=>match x with|(j,c,e,p,q)=>⟨97,[(0,.ptr 1000000 0),(2,.ptr 2 0),(3,.ptr 3 0),(4,zI lv),(5,zL (intE a)),(6,zI k),(7,.row 23),(24,zL (intE a)),(25,zI (a.length:Nat)),(26,zI j)],(23,.row 3 (intE e) true)::tpB c b p q⟩) (fun x=>match x with|(j,c,e,p,q)=>(j<=a.length/\TL b c p/\e.length<=c.length)/\rowG b (a.drop j) c e (p,q)=((par2,nx2),p2,q2)) (fun x=>a.length-x.1) (0,c,[],p,q) (by exact⟨⟨Xad _,⟨⟨g,d⟩,ab⟩,Xad _⟩,hM⟩) ?_ ?_
   ·refine⟨rfl,?_,?_,rfl⟩
    repeat'(first|apply And.intro|exact ze0|refine ze1 ?_|refine zei ?_ ?_|exact rfl|trivial)
    all_goals exact zp (by first|rfl|exact aw)
   ·rintro ⟨j,c,e,p,q⟩ ⟨⟨hj,⟨⟨g,d⟩,ab⟩,ag⟩,o⟩
    dsimp only
    have ak:=Qc c
    have az:=Qc e
    by_cases ar:j<a.length
    ·rw[Vo ar]at o
     repeat'(first|refine zst ?_|(refine zhm fun hb=>?_;try exact zab)|refine zdr ?_|(apply zch;exact zcg)|refine VC.mk fun w0 Z O=>?_|exact zhk|refine zg3 ?_ ?_|refine zln fun _=>?_|refine zop ?_|(refine km [1000000] (Jk hL (by omega)) rfl rfl (fun i hi=>?_) (hob:=rfl);obtain⟨iv,ip,y⟩:=i;(try dsimp only at hi))|fail)
     obtain⟨v,rfl⟩:∃z,z=iv:=⟨iv,rfl⟩
     obtain⟨⟨par3,nx3⟩,hG⟩:∃R,ZN (nth a j) (1+v).toNat c e=R:=⟨_,rfl⟩
     have aj:=QjJ (nth a j) (1+v).toNat c e d ag
     rw[hG]at aj
     rw[QxQ hi.1 hG]at o
     dsimp only at aj o
     refine Qa (fun(x:Nat×List Int×List Int)=>match x with|(m,c,e)=>⟨97,[(0,.ptr 1000000 0),(2,.ptr 2 0),(3,.ptr 3 0),(4,zI lv),(5,zL (intE a)),(6,zI k),(7,.row 23),(9,zI (nth a j)),(10,zI m),(24,zL (intE a)),(25,zI (a.length:Nat)),(26,zI j)],(23,.row 3 (intE e) true)::tpB c b ip y⟩) (fun x=>match x with|(m,c,e)=>(0<c.length/\c.length<=18/\e.length<=c.length/\m<=10)/\ZN (nth a j) m c e=(par3,nx3)) (fun x=>x.1) ((1+v).toNat,c,e) (by exact⟨by omega,hG⟩) ?_ ?_
     ·refine⟨rfl,?_,?_,rfl⟩
      repeat'(first|apply And.intro|exact ze0|refine ze1 ?_|refine zei ?_ ?_|exact rfl|trivial)
      all_goals exact zp (by first|rfl|omega)
     ·rintro ⟨m,c,e⟩ ⟨⟨g,d,ag,a6⟩,ad⟩
      dsimp only
      have ak:=Qc c
      have az:=Qc e
      by_cases f:m=0
      ·subst f
       obtain⟨rfl,rfl⟩:=Prod.mk.inj ad
       repeat'(first|refine zst ?_|(refine zhm fun hb=>?_;try exact zab)|refine zdr ?_|(apply zch;exact zcg)|refine VC.mk fun w0 Z O=>?_|exact zhk|refine zg3 ?_ ?_|refine zln fun _=>?_|refine zop ?_|fail)
       refine⟨(j+1,c,e,ip,y),⟨⟨by dsimp only;omega,⟨⟨g,d⟩,by dsimp only;omega⟩,ag⟩,o⟩,by dsimp only;omega,?_⟩
       exact⟨rfl,zae,zae,rfl⟩
      ·by_cases ai:c.length<18
       ·rw[Qw9 f ai]at ad
        have bb:(intE c++[[D.n .i64 (nth a j)]]).length=c.length+1:=by rw[Xaa,ak];rfl
        repeat'(first|refine zst ?_|(refine zhm fun hb=>?_;try exact zab)|refine zdr ?_|(apply zch;exact zcg)|refine VC.mk fun w0 Z O=>?_|exact zhk|refine zg3 ?_ ?_|refine zln fun _=>?_|refine zop ?_|fail)
        refine⟨(m-1,c++[nth a j],e++[(c.length:Int)]),⟨by dsimp only;rw[Xaa,Xaa,Xap,Xap];omega,ad⟩,by dsimp only;omega,?_⟩
        refine⟨rfl,?_,?_,rfl⟩
        repeat'(first|apply And.intro|exact ze0|refine ze1 ?_|refine zei ?_ ?_|exact rfl|trivial)
        all_goals exact zp (by first|rfl|omega|exact Ji _ _|(rw[Ji];congr 3;omega)|(rw[<-Ji];congr 4;omega))
       ·rw[Qv9 f ai]at ad
        obtain⟨rfl,rfl⟩:=Prod.mk.inj ad
        repeat'(first|refine zst ?_|(refine zhm fun hb=>?_;try exact zab)|refine zdr ?_|(apply zch;exact zcg)|refine VC.mk fun w0 Z O=>?_|exact zhk|refine zg3 ?_ ?_|refine zln fun _=>?_|refine zop ?_|fail)
        refine⟨(j+1,c,e,ip,y),⟨⟨by dsimp only;omega,⟨⟨g,d⟩,by dsimp only;omega⟩,ag⟩,o⟩,by dsimp only;omega,?_⟩
        exact⟨rfl,zae,zae,rfl⟩
    ·rw[List.drop_of_length_le (by omega),rowG]at o
     obtain⟨am,an⟩:=Prod.mk.inj o
     obtain⟨rfl,rfl⟩:=Prod.mk.inj am
     obtain⟨rfl,rfl⟩:=Prod.mk.inj an
     by_cases ae:e=[]
     ·subst ae
      rw[if_pos rfl]at w
      repeat'(first|(refine Qh 17 23 rfl ?_)|refine zst ?_|(refine zhm fun hb=>?_;try exact zab)|refine zdr ?_|(apply zch;exact zcg)|refine VC.mk fun w0 Z O=>?_|exact zhk|refine zg3 ?_ ?_|refine zln fun _=>?_|refine zop ?_|fail)
      refine⟨(k+1,c,a,p,q),⟨⟨by dsimp only;omega,⟨⟨g,d⟩,ab⟩,au,av⟩,w⟩,by dsimp only;omega,?_⟩
      exact⟨rfl,zae,zae,rfl⟩
     ·rw[if_neg ae]at w
      have a0:=Xbb.2 ae
      repeat'(first|(refine Qh 17 23 rfl ?_)|refine zst ?_|(refine zhm fun hb=>?_;try exact zab)|refine zdr ?_|(apply zch;exact zcg)|refine VC.mk fun w0 Z O=>?_|exact zhk|refine zg3 ?_ ?_|refine zln fun _=>?_|refine zop ?_|fail)
      refine⟨(k+1,c,e,p,q),⟨⟨by dsimp only;omega,⟨⟨g,d⟩,ab⟩,a0,by dsimp only;omega⟩,w⟩,by dsimp only;omega,?_⟩
      exact⟨rfl,zae,zae,rfl⟩
  ·rw[show lv.toNat-k=0 by omega,lvlG]at w
   obtain⟨ap,aq⟩:=Prod.mk.inj w
   obtain⟨rfl,rfl⟩:=Prod.mk.inj ap
   obtain⟨rfl,rfl⟩:=Prod.mk.inj aq
   repeat'(first|refine zst ?_|(refine zhm fun hb=>?_;try exact zab)|refine zdr ?_|(apply zch;exact zcg)|refine VC.mk fun w0 Z O=>?_|exact zhk|refine zg3 ?_ ?_|refine zln fun _=>?_|refine zop ?_|(refine km [1000000] (Jk hL (by omega)) rfl rfl (fun i hi=>?_) (hob:=rfl);obtain⟨iv,ip,y⟩:=i;(try dsimp only at hi))|fail)
   obtain⟨n0,rfl⟩:∃z,z=iv:=⟨iv,rfl⟩
   have ay:=hi
   obtain⟨⟨ns',p'',q''⟩,hN⟩:∃R,nodG b c a (1+n0).toNat [] (ip,y)=R:=⟨_,rfl⟩
   refine Qa (fun(x:Nat×List Qax×Int×Int)=>match x with|(m,l,p,q)=>⟨97,[(0,.ptr 1000000 0),(2,.ptr 2 0),(3,.ptr 3 0),(5,zL (intE a)),(11,zI m)],[(2,.box 26 [.nil,.nil]),(3,.box 26 [.row 13,slV 94 (Qw l)]),(13,.row 3 (intE c) true),(1000000,curO b p q)]++slW 94 62 (Qw l)⟩) (fun x=>match x with|(m,l,p,q)=>(l.length+m<=10/\0<=p/\p<=b.length)/\nodG b c a m l (p,q)=(ns',p'',q'')) (fun x=>x.1) ((1+n0).toNat,[],ip,y) (by exact⟨by rw[XaA];omega,hN⟩) ?_ ?_
   ·refine⟨rfl,?_,?_,rfl⟩
    repeat'(first|apply And.intro|exact ze0|refine ze1 ?_|refine zei ?_ ?_|exact rfl|trivial)
    all_goals exact zp (by first|rfl|omega)
   ·rintro ⟨m,l,p,q⟩ ⟨⟨hm,ab⟩,u⟩
    try dsimp only at hm ab u
    try dsimp only
    have a7:=Qz l
    have ba:∀x:Qax,l++[x]≠[]:=fun x h=>by simp at h
    by_cases f:m=0
    ·subst f
     rw[nodG]at u
     obtain⟨rfl,ao⟩:=Prod.mk.inj u
     obtain⟨rfl,rfl⟩:=Prod.mk.inj ao
     have hT:=Qvq ax.1 hR ay.1 hN
     cases l with
     | nil=>
      simp only[Qpm,QpP,XaS]
      repeat'(first|(refine Qh 25 13 rfl ?_)|refine zsr ?_|(refine zhm fun hb=>?_;try exact zab)|refine zdr ?_|(apply zch;exact zcg)|refine VC.mk fun w0 Z O=>?_|exact zhk|refine zg3 ?_ ?_|refine zln fun _=>?_|refine zop ?_|fail)
      show AWp _ _ _ _
      refine QA ?_
      apply Qu
      refine zp ?_
      refine' Yc ⟨⟨_,[]⟩,_,_⟩ _ [] rfl ?_
      any_goals refine QcL.mk ?_ ?_ ?_ ?_ ?_
      any_goals (refine WD.mk ?_;(try dsimp only[YT]);exact rfl)
      repeat'(first|apply And.intro|exact zeb|refine zec ?_|exact zen|refine zeo ?_|exact zes|refine zet ?_|exact zel|refine zem ?_|exact zep|refine zeq1 ?_|refine zea ?_|refine zei ?_ ?_|refine zex ?_|(apply Q9;iterate 3 exact rfl)|exact rfl|exact trivial)
      all_goals first|exact zp rfl|(refine WD.mk ?_;exact⟨⟨hT,d,Xad _⟩,by omega⟩)
     | cons n1 l=>
      simp only[QlZ,Qlt,Xa0,XaR]
      repeat'(first|(refine Qh 25 13 rfl ?_)|(refine Qh 25 94 rfl ?_)|refine zsr ?_|(refine zhm fun hb=>?_;try exact zab)|refine zdr ?_|(apply zch;exact zcg)|refine VC.mk fun w0 Z O=>?_|exact zhk|refine zg3 ?_ ?_|refine zln fun _=>?_|refine zop ?_|fail)
      show AWp _ _ _ _
      refine QA ?_
      apply Qu
      refine zp ?_
      refine' Yc ⟨⟨_,n1::l⟩,_,_⟩ _ [] rfl ?_
      any_goals refine QcL.mk ?_ ?_ ?_ ?_ ?_
      any_goals (refine WD.mk ?_;(try dsimp only[YT]);exact rfl)
      repeat'(first|apply And.intro|exact zeb|refine zec ?_|exact zen|refine zeo ?_|exact zes|refine zet ?_|exact zel|refine zem ?_|exact zep|refine zeq1 ?_|refine zea ?_|refine zei ?_ ?_|refine zex ?_|(apply Q9;iterate 3 exact rfl)|exact rfl|exact trivial)
      all_goals first|exact zp rfl|(refine WD.mk ?_;exact⟨⟨hT,d,by omega⟩,by omega⟩)
    ·cases l with
     | nil=>
      simp only[Qpm,QpP,XaS]
      have ck:=fun s=>XP (t:=⟨c,[]⟩) (s:=s) g (by dsimp only;omega)
      repeat'(first|refine zst ?_|(refine zhm fun hb=>?_;try exact zab)|refine zg2 ?_ ?_|refine zln fun _=>?_|refine zop ?_|refine kc (ck _) rfl rfl ?_|(refine km [1000000] (Jk hL (by omega)) rfl rfl (fun i hi=>?_) (hob:=rfl);obtain⟨iv,ip,y⟩:=i;(try dsimp only at hi))|fail)
      ·obtain⟨⟨x1,p1,q1⟩,h1⟩:∃r,QE b (ip,y) 5=r:=⟨_,rfl⟩
       obtain⟨a2,af⟩:=Yv (by decide) (by omega) h1
       obtain⟨⟨x2,p2,q2⟩,h2⟩:∃r,QE b (p1,q1) 9=r:=⟨_,rfl⟩
       obtain⟨a3,ah⟩:=Yv (by decide) af h2
       obtain⟨⟨x3,p3,q3⟩,h3⟩:∃r,QE b (p2,q2) 3=r:=⟨_,rfl⟩
       obtain⟨a4,a1⟩:=Yv (by decide) ah h3
       repeat'(first|refine zst ?_|(refine zhm fun hb=>?_;try exact zab)|(apply Y9;iterate 10 exact rfl)|refine zdr ?_|(apply zchP 1000000;exact zcg)|(apply zch;exact zcg)|refine VC.mk fun w0 Z O=>?_|exact zhk|refine zg3 ?_ ?_|refine zln fun _=>?_|refine zop ?_|(refine km [1000000] (XU hL (by omega) (by omega) h1) rfl rfl (fun i hi=>?_);(try dsimp only at hi))|(refine km [1000000] (XU hL (by omega) (by omega) h2) rfl rfl (fun i hi=>?_);(try dsimp only at hi))|(refine km [1000000] (XU hL (by omega) (by omega) h3) rfl rfl (fun i hi=>?_);(try dsimp only at hi))|fail)
       refine⟨(m-1,[]++[⟨nth a iv.toNat,⟨addN 4 x1,addN 8 x2,x3⟩⟩],p3,q3),⟨⟨by dsimp only;rw[Xaa,Xap];omega,by dsimp only;omega⟩,(Qu8 f hi.1 (by dsimp only at hb;omega) h1 h2 h3).symm.trans u⟩,by dsimp only;omega,?_⟩
       refine⟨rfl,?_,?_,rfl⟩
       repeat'(first|apply And.intro|exact ze0|refine ze1 ?_|refine zei ?_ ?_|exact rfl|trivial)
       all_goals exact zp (by first|rfl|omega|exact Qgk _ _)
      ·refine⟨(m-1,[],ip,y),⟨⟨by dsimp only;omega,by dsimp only;omega⟩,(QuF f hi.1 (by dsimp only at hb;omega)).symm.trans u⟩,by dsimp only;omega,?_⟩
       exact⟨rfl,zae,zae,rfl⟩
     | cons n1 l=>
      simp only[QlZ,Qlt,Xa0,XaR]
      have ck:=fun s=>XP (t:=⟨c,n1::l⟩) (s:=s) g (by dsimp only;omega)
      repeat'(first|refine zst ?_|(refine zhm fun hb=>?_;try exact zab)|refine zg2 ?_ ?_|refine zln fun _=>?_|refine zop ?_|refine kc (ck _) rfl rfl ?_|(refine km [1000000] (Jk hL (by omega)) rfl rfl (fun i hi=>?_) (hob:=rfl);obtain⟨iv,ip,y⟩:=i;(try dsimp only at hi))|fail)
      ·obtain⟨⟨x1,p1,q1⟩,h1⟩:∃r,QE b (ip,y) 5=r:=⟨_,rfl⟩
       obtain⟨a2,af⟩:=Yv (by decide) (by omega) h1
       obtain⟨⟨x2,p2,q2⟩,h2⟩:∃r,QE b (p1,q1) 9=r:=⟨_,rfl⟩
       obtain⟨a3,ah⟩:=Yv (by decide) af h2
       obtain⟨⟨x3,p3,q3⟩,h3⟩:∃r,QE b (p2,q2) 3=r:=⟨_,rfl⟩
       obtain⟨a4,a1⟩:=Yv (by decide) ah h3
       repeat'(first|refine zst ?_|(refine zhm fun hb=>?_;try exact zab)|(apply Y9;iterate 10 exact rfl)|refine zdr ?_|(apply zchP 1000000;exact zcg)|(apply zch;exact zcg)|refine VC.mk fun w0 Z O=>?_|exact zhk|refine zg3 ?_ ?_|refine zln fun _=>?_|refine zop ?_|(refine km [1000000] (XU hL (by omega) (by omega) h1) rfl rfl (fun i hi=>?_);(try dsimp only at hi))|(refine km [1000000] (XU hL (by omega) (by omega) h2) rfl rfl (fun i hi=>?_);(try dsimp only at hi))|(refine km [1000000] (XU hL (by omega) (by omega) h3) rfl rfl (fun i hi=>?_);(try dsimp only at hi))|fail)
       refine⟨(m-1,(n1::l)++[⟨nth a iv.toNat,⟨addN 4 x1,addN 8 x2,x3⟩⟩],p3,q3),⟨⟨by dsimp only;rw[Xaa,Xap];omega,by dsimp only;omega⟩,(Qu8 f hi.1 (by dsimp only at hb;omega) h1 h2 h3).symm.trans u⟩,by dsimp only;omega,?_⟩
       refine⟨rfl,?_,?_,rfl⟩
       repeat'(first|apply And.intro|exact ze0|refine ze1 ?_|refine zei ?_ ?_|exact rfl|trivial)
       all_goals exact zp (by first|rfl|omega|exact Qgk (n1::l) ⟨nth a iv.toNat,⟨addN 4 x1,addN 8 x2,x3⟩⟩)
      ·refine⟨(m-1,n1::l,ip,y),⟨⟨by dsimp only;omega,by dsimp only;omega⟩,(QuF f hi.1 (by dsimp only at hb;omega)).symm.trans u⟩,by dsimp only;omega,?_⟩
       exact⟨rfl,zae,zae,rfl⟩
end
end Go.Proofs.YtkdniahincpmaaaGreat
