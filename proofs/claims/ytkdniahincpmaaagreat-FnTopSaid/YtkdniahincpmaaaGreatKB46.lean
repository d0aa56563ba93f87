/-
  Draws: the cursor. What is drawn is a function of the bytes.
-/
import Derived.Test.YtkdniahincpmaaaGreatKB41
set_option maxRecDepth 100000
set_option maxHeartbeats 16000000
namespace Go.Proofs.YtkdniahincpmaaaGreat
open Go Go.RowKit Tryz
section
attribute [local irreducible] AWp QI OpOk ACalls ChA QsOk MCalls NCalls EnC PY

theorem QhO:∀{es:List (List D)},(∀q∈es,∃z,q=[D.n .u8 z]/\(Lit.int .u8 z).wf=true)->∃b,es=QK b
 | [],_=>⟨[],rfl⟩
 | q::es,h=>by
  obtain⟨z,rfl,hz⟩:=h q Xac
  obtain⟨b,rfl⟩:=QhO (es:=es) fun q hq=>h q (Xae _ hq)
  have hz':0<=z/\z<=255:=by
   simp[Lit.wf,IntKind.min,IntKind.max,IntKind.signed,IntKind.bits]at hz
   omega
  refine⟨UInt8.ofNat z.toNat::b,?_⟩
  have:=QiU hz'
  simp only[QK,Xat,Xbl,Xbz,and_true]at this ⊢
  exact this
def Qii(z:Int):Int:=IntKind.i64.wrap z
def shrI(p q:Int):Int:=p.fdiv (2 ^ min q.toNat 64)
def xorI(p q:Int):Int:=IntKind.i64.wrap ((BitVec.ofInt IntKind.i64.bits p ^^^ BitVec.ofInt IntKind.i64.bits q).toNat)
def andI(p q:Int):Int:=IntKind.i64.wrap ((BitVec.ofInt IntKind.i64.bits p&&&BitVec.ofInt IntKind.i64.bits q).toNat)
section
variable {X:Cx} {σ:AS} {o:Oper} {K:AS->Prop} {t:Nat} {p q:Int} {xt yt:TypeId} {x y:Operand}
theorem Qhe(ho:o.op=.binOp .add xt x y yt)(hd:o.dst=some t)(hx:σ.ev x=zI p)(hy:σ.ev y=zI q)(ht:Nat.blt t σ.nt=true)(hK:∀r:Int,r=Qii (p+q)->K (σ.put t (zI r))):QOk X o σ K:=
 ZF ho hd hx hy rfl ht (hK _ rfl)
theorem Qgy(ho:o.op=.binOp .mul xt x y yt)(hd:o.dst=some t)(hx:σ.ev x=zI p)(hy:σ.ev y=zI q)(ht:Nat.blt t σ.nt=true)(hK:∀r:Int,r=Qii (p*q)->K (σ.put t (zI r))):QOk X o σ K:=
 ZF ho hd hx hy rfl ht (hK _ rfl)
theorem Qk0{k:IntKind}(ho:o.op=.binOp .shr xt x y yt)(hd:o.dst=some t)(hx:σ.ev x=zI p)(hy:σ.ev y=.d (.n k q))(hb:0<=q)(ht:Nat.blt t σ.nt=true)(hK:∀r:Int,r=shrI p q->K (σ.put t (zI r))):QOk X o σ K:=
 Qj5 (r:=shrI p q) (fun w=>by
  simp[binOp,Op.shift,Int.not_lt.mpr hb,Sem.run_pure,IntKind.bits,shrI]) ⟨by decide,by decide⟩ ho hd hx hy ht (hK _ rfl)
theorem QjT(ho:o.op=.binOp .xor xt x y yt)(hd:o.dst=some t)(hx:σ.ev x=zI p)(hy:σ.ev y=zI q)(ht:Nat.blt t σ.nt=true)(hK:∀r:Int,r=xorI p q->K (σ.put t (zI r))):QOk X o σ K:=
 Qj5 (r:=xorI p q) (fun w=>by
  simp[binOp,Op.intBits,Sem.run_pure,xorI]) ⟨by decide,by decide⟩ ho hd hx hy ht (hK _ rfl)
theorem Qk2{n:Nat}(ho:o.op=.binOp .and xt x y yt)(hd:o.dst=some t)(hx:σ.ev x=zI p)(hy:σ.ev y=zI q)(hq:q=(n:Int))(hn:n<9223372036854775808)(ht:Nat.blt t σ.nt=true)(hK:∀r:Int,r=andI p n/\0<=r/\r<=n->K (σ.put t (zI r))):QOk X o σ K:=by
 subst hq
 exact Qj5 (r:=andI p n) (fun w=>by
  simp[binOp,Op.intBits,Sem.run_pure,andI]) ⟨by decide,by decide⟩ ho hd hx hy ht (hK _ ⟨rfl,Qts p hn⟩)
end
abbrev Cu:=Int×Int
def mixI(h:Int):Int:=Qii (Qii (h*6364136223846793005)+1442695040888963407)
def bitI(h:Int):Int:=andI (xorI (shrI h 33) (shrI h 45)) (255:Nat)
def WB(b:List UInt8)(c:Cu):Int×Cu:=if c.1<b.length then(andI (Qii (bitI (mixI c.2)+((nth b c.1.toNat).toNat:Nat))) (255:Nat),((c.1.toNat+1:Nat):Int),mixI c.2) else(bitI (mixI c.2),c.1,mixI c.2)
def remI(k:Nat)(n:Int):Int:=((k % n.toNat:Nat):Int)
def QE(b:List UInt8)(c:Cu)(n:Int):Int×Cu:=
 if n<=0 then(0,c)else if n<=256 then match WB b c with
  | (x,c)=>(remI x.toNat n,c)
 else match WB b c with
  | (x,c)=>match WB b c with
   | (y,c)=>match WB b c with
    | (z,c)=>match WB b c with
     | (w,c)=>(remI (x.toNat*16777216+y.toNat*65536+z.toNat*256+w.toNat) n,c)
def Qpb(b:List UInt8):Nat->Int
 | 0=>((958001+b.length:Nat):Int)
 | k+1=>andI (Qii (Qii (Qii (Qpb b k*151)+((nth b k).toNat:Nat))+7)) (1073741823:Nat)
def newF(b:List UInt8):Cu:=(0,Qpb b (min b.length 4000))
abbrev curO(b:List UInt8)(i h:Int):AO:=.box 158 [zL (QK b),zI i,zI h]
theorem Qr2{b:List UInt8}{i h:Int}(hL:b.length<=1048576)(hI:0<=i/\i<=b.length):MCalls Tryz.prog 100 [.ptr 1000000 0] [(1000000,curO b i h)] (fun(x:Int×Int×Int)=>match x with|(v,p,q)=>WB b (i,h)=(v,p,q)/\(0<=v/\v<=255)/\0<=p/\p<=b.length) (fun x=>match x with|(v,_,_)=>[zI v]) (fun x=>match x with|(_,p,q)=>[(1000000,curO b p q)]) (fun _=>[]):=by
 refine Js tt func100 rfl rfl rfl ⟨rfl,trivial⟩ (fun _ _=>⟨⟨⟨rfl,rfl,rfl⟩,trivial⟩,rfl,trivial⟩) (fun w0 Z O=>?_)
 repeat'(first|refine zst ?_|(refine zhm fun hb=>?_;try exact zab)|refine zdr ?_|(apply zch;exact zcg)|refine zpp fun w0 Z O=>?_|exact zhk|refine zg3 ?_ ?_|(apply VS;first|refine zk44 ?_|refine zk45 rfl ?_|refine zk46 rfl ?_|refine zgq ?_)|(apply q_id;first|refine zk0 ?_|refine zk2 ?_|refine zk5 ?_|refine zk11 ?_|refine zk12 (fun _=>?_)|refine zk13 rfl rfl rfl ?_|refine zk14 ?_|refine zk17 ?_|refine zk19 ?_|refine zk20 ?_|refine zk22 ?_|refine zk31 ?_|refine zk32 rfl rfl rfl ?_|refine zk33 rfl ?_|refine zk34 rfl ?_|refine zk47 ?_|(refine Qhe rfl rfl rfl rfl rfl (fun r hr=>?_))|(refine Qgy rfl rfl rfl rfl rfl (fun r hr=>?_))|(refine Qk0 rfl rfl rfl rfl (by omega) rfl (fun r hr=>?_))|(refine QjT rfl rfl rfl rfl rfl (fun r hr=>?_))|(refine Qk2 rfl rfl rfl rfl (by first|with_reducible rfl|exact nlit _|exact(Xa3 (by omega)).symm|rfl) (by omega) rfl (fun r hr=>?_))))
 all_goals
  refine zp ?_
  refine' Yc ⟨_,_,_⟩ _ [] rfl ?_
  any_goals refine QcL.mk ?_ ?_ ?_ ?_ ?_
  any_goals (refine WD.mk ?_;(try dsimp only[]);exact rfl)
  repeat'(first|apply And.intro|exact zeb|refine zec ?_|exact zen|refine zeo ?_|exact zes|refine zet ?_|exact zel|refine zem ?_|exact zep|refine zeq1 ?_|refine zea ?_|refine zei ?_ ?_|refine zex ?_|(apply Q9;iterate 3 exact rfl)|exact rfl|exact trivial)
  all_goals first|exact zp rfl|(refine WD.mk ?_;exact⟨by(first|(unfold WB;rw[if_pos (by dsimp only;omega)];simp only[bitI,mixI, *];done)|(unfold WB;rw[if_neg (by dsimp only;omega)];simp only[bitI,mixI, *];done)),by omega⟩)
theorem Qve{k:Nat}{n:Int}(h:0<n):n<=0/\remI k n=0\/0<=remI k n/\remI k n<n:=by
 have:=Nat.mod_lt k (show 0<n.toNat by omega)
 unfold remI
 omega
theorem QyQ{b:List UInt8}{c d:Cu}{n x:Int}(h0:0<n)(h1:n<=256)(h:WB b c=(x,d)):QE b c n=(remI x.toNat n,d):=by
 unfold QE
 rw[if_neg (by omega),if_pos h1,h]
theorem QyR{b:List UInt8}{c d e f g:Cu}{n x y z w:Int}(h1:256<n)(hx:WB b c=(x,d))(hy:WB b d=(y,e))(hz:WB b e=(z,f))(hw:WB b f=(w,g)):QE b c n=(remI (x.toNat*16777216+y.toNat*65536+z.toNat*256+w.toNat) n,g):=by
 unfold QE
 rw[if_neg (by omega),if_neg (by omega),hx]
 dsimp only
 rw[hy]
 dsimp only
 rw[hz]
 dsimp only
 rw[hw]
theorem Jk{b:List UInt8}{i h n:Int}(hL:b.length<=1048576)(hI:0<=i/\i<=b.length):MCalls Tryz.prog 38 [.ptr 1000000 0,zI n] [(1000000,curO b i h)] (fun(x:Int×Int×Int)=>match x with|(v,p,q)=>QE b (i,h) n=(v,p,q)/\(n<=0/\v=0\/0<=v/\v<n)/\0<=p/\p<=b.length) (fun x=>match x with|(v,_,_)=>[zI v]) (fun x=>match x with|(_,p,q)=>[(1000000,curO b p q)]) (fun _=>[]):=by
 refine Js tt func38 rfl rfl rfl ⟨rfl,trivial⟩ (fun _ _=>⟨⟨⟨rfl,rfl,rfl⟩,trivial⟩,rfl,trivial⟩) (fun w0 Z O=>?_)
 repeat'(first|(refine zhm fun hb=>?_;try exact zab)|refine zUto ?_|refine zg2 ?_ ?_|(refine km [1000000] (Qr2 hL (by omega)) rfl rfl (fun i hi=>?_) (hob:=rfl);obtain⟨iv,ip,ih⟩:=i;(try dsimp only at hi))|intro _)
 ·refine zp ?_
  refine' Yc ⟨_,_,_⟩ _ [] rfl ?_
  any_goals refine QcL.mk ?_ ?_ ?_ ?_ ?_
  any_goals (refine WD.mk ?_;(try dsimp only[]);exact rfl)
  repeat'(first|apply And.intro|exact zeb|refine zec ?_|exact zen|refine zeo ?_|exact zes|refine zet ?_|exact zel|refine zem ?_|exact zep|refine zeq1 ?_|refine zea ?_|refine zei ?_ ?_|refine zex ?_|(apply Q9;iterate 3 exact rfl)|exact rfl|exact trivial)
  all_goals first|exact zp rfl|(refine WD.mk ?_;exact⟨if_pos (by omega),Or.inl ⟨by omega,rfl⟩,by omega⟩)
 ·refine zp ?_
  refine' Yc ⟨_,_,_⟩ _ [] rfl ?_
  any_goals refine QcL.mk ?_ ?_ ?_ ?_ ?_
  any_goals (refine WD.mk ?_;(try dsimp only[]);exact rfl)
  repeat'(first|apply And.intro|exact zeb|refine zec ?_|exact zen|refine zeo ?_|exact zes|refine zet ?_|exact zel|refine zem ?_|exact zep|refine zeq1 ?_|refine zea ?_|refine zei ?_ ?_|refine zex ?_|(apply Q9;iterate 3 exact rfl)|exact rfl|exact trivial)
  all_goals first|exact zp rfl|(refine WD.mk ?_;exact⟨QyQ (by omega) (by omega) hi.1,Qve (by omega),by omega⟩)
 ·rename_i x1 p1 q1 a x2 p2 q2 c x3 p3 q3 d
  refine zp ?_
  refine' Yc ⟨_,_,_⟩ _ [] rfl ?_
  any_goals refine QcL.mk ?_ ?_ ?_ ?_ ?_
  any_goals (refine WD.mk ?_;(try dsimp only[]);exact rfl)
  repeat'(first|apply And.intro|exact zeb|refine zec ?_|exact zen|refine zeo ?_|exact zes|refine zet ?_|exact zel|refine zem ?_|exact zep|refine zeq1 ?_|refine zea ?_|refine zei ?_ ?_|refine zex ?_|(apply Q9;iterate 3 exact rfl)|exact rfl|exact trivial)
  all_goals first|exact zp rfl|(refine WD.mk ?_;exact⟨QyR (by omega) a.1 c.1 d.1 hi.1,Qve (by omega),by omega⟩)
theorem QmC{b:List UInt8}(hL:b.length<=1048576):MCalls Tryz.prog 33 [zL (QK b)] [] (fun(h:Int)=>newF b=(0,h)) (fun _=>[.ptr 0 0]) (fun _=>[]) (fun h=>[(0,curO b 0 h)]):=by
 refine zMC func33 fun w0 Z O=>?_
 repeat'(first|refine zst ?_|(refine zhm fun hb=>?_;try exact zab)|refine zg2 ?_ ?_|(apply VS;first|refine zk44 ?_|refine zk45 rfl ?_|refine zk46 rfl ?_|refine zgq ?_)|(apply q_id;first|refine zk0 ?_|refine zk2 ?_|refine zk5 ?_|refine zk11 ?_|refine zk12 (fun _=>?_)|refine zk13 rfl rfl rfl ?_|refine zk14 ?_|refine zk17 ?_|refine zk19 ?_|refine zk20 ?_|refine zk22 ?_|refine zk23 rfl ?_|refine zk31 ?_|refine zk32 rfl rfl rfl ?_|refine zk33 rfl ?_|refine zk34 rfl ?_|refine zk47 ?_|(refine Qhe rfl rfl rfl rfl rfl (fun r hr=>?_))|(refine Qgy rfl rfl rfl rfl rfl (fun r hr=>?_))|(refine Qk0 rfl rfl rfl rfl (by omega) rfl (fun r hr=>?_))|(refine QjT rfl rfl rfl rfl rfl (fun r hr=>?_))|(refine Qk2 rfl rfl rfl rfl (by first|with_reducible rfl|exact nlit _|exact(Xa3 (by omega)).symm|rfl) (by omega) rfl (fun r hr=>?_))))
 refine Qa (fun(x:Nat×Int)=>⟨32,[(0,zL (QK b)),(2,.any),(3,zI x.2),(4,zI x.1)],[]⟩) (fun x=>x.1<=min b.length 4000/\x.2=Qpb b x.1) (fun x=>b.length-x.1) (0,((958001+b.length:Nat):Int)) (by exact⟨Xad _,rfl⟩) ?_ ?_
 ·exact zll
 ·rintro ⟨k,h⟩ ⟨c,a⟩
  dsimp only at c a
  repeat'(first|refine zst ?_|(refine zhm fun hb=>?_;try exact zab)|refine zg2 ?_ ?_|(apply VS;first|refine zk44 ?_|refine zk45 rfl ?_|refine zk46 rfl ?_|refine zgq ?_)|(apply q_id;first|refine zk0 ?_|refine zk2 ?_|refine zk5 ?_|refine zk11 ?_|refine zk12 (fun _=>?_)|refine zk13 rfl rfl rfl ?_|refine zk14 ?_|refine zk17 ?_|refine zk19 ?_|refine zk20 ?_|refine zk22 ?_|refine zk23 rfl ?_|refine zk31 ?_|refine zk32 rfl rfl rfl ?_|refine zk33 rfl ?_|refine zk34 rfl ?_|refine zk47 ?_|(refine Qhe rfl rfl rfl rfl rfl (fun r hr=>?_))|(refine Qgy rfl rfl rfl rfl rfl (fun r hr=>?_))|(refine Qk0 rfl rfl rfl rfl (by omega) rfl (fun r hr=>?_))|(refine QjT rfl rfl rfl rfl rfl (fun r hr=>?_))|(refine Qk2 rfl rfl rfl rfl (by first|with_reducible rfl|exact nlit _|exact(Xa3 (by omega)).symm|rfl) (by omega) rfl (fun r hr=>?_))))
  ·refine⟨(k+1,Qpb b (k+1)),⟨by dsimp only;omega,rfl⟩,by dsimp only;omega,?_⟩
   refine⟨rfl,?_,?_,rfl⟩
   repeat'(first|exact ze3|refine ze2 ?_ ?_|refine ze4 ?_|exact ze5|fail)
   all_goals first|exact zp rfl|exact zp (by simp only[Qpb, *];done)
  all_goals
   refine zp ?_
   refine' Yc h _ [31] rfl ?_
   any_goals refine QcL.mk ?_ ?_ ?_ ?_ ?_
   any_goals (refine WD.mk ?_;(try dsimp only[]);exact rfl)
   repeat'(first|apply And.intro|exact zeb|refine zec ?_|exact zen|refine zeo ?_|exact zes|refine zet ?_|exact zel|refine zem ?_|exact zep|refine zeq1 ?_|refine zea ?_|refine zei ?_ ?_|refine zex ?_|(apply Q9;iterate 3 exact rfl)|exact rfl|exact trivial)
   all_goals first|exact zp rfl|(refine WD.mk ?_;exact(by unfold newF;rw[a,show k=min b.length 4000 by omega]))
end
section
def Qzh(o:Oper):Bool:=match o.op with
 | .call c=>(match c.callee with
  | .value (.func _)=>true
  | _=>false)
 | _=>false
theorem zchP(nm:Nat){X:Cx}{σ:AS}{nt:Nat}{ops:Array Oper}{N:AS->Prop}{o:Oper}{l:List Oper}{acc:List (Nat×List Nat×Lo)}{i:Nat}{gs rs:List (Nat×AV)}{ro ob' wo:List (Nat×AO)}{fr:List Nat}{v:AV}
  (h1:σ.nt=nt/\((o.guard=none/\gs=[])\/∃j d t,o.guard=some (j,t)/\(ops[j]?).bind (·.dst)=some d/\look σ.sl d=.d (.b t)/\gs=[(d,.d (.b t))])/\ZZ σ o=some (rs,ro)/\(Qzh o&&hasN nm ro)=true)
  (hop:VC (∀(w0:World) (Z:ZV (freS [] ro)) (O:Nat->Prop),OpOk ⟨X.P,w0,freS [] ro,Z,O,X.tt⟩ o ⟨σ.nt,rs,ro⟩ (fun σ'=>Qxn (σ'.nt=σ.nt/\XY (dstV o σ') some=some v/\obsK σ'.ob some=some ob'))))
  {pr:List Nat} {σ':AS}
  (h2:Sd (wofr ro [nm] ob' [] []=some (wo,fr)/\(AS.closed ⟨σ.nt,rs,ro⟩&&QfC wo ob' (ro.filter fun y=>Yf [] y.1)&&chkW ob' ro&&chkW ob' wo&&chkM ro fr ob'&&(fr.all X.fre&&([]:List Nat).all X.fre)&&fr.all fun p=>!hasN p σ.ob)=true/\
   allP (fun y=>Qn wo y.1=some y.2\/(Qn wo y.1=none/\(Qn ro y.1).map (AO.cut (Yf []))=some y.2)) ob'/\allP (fun y=>Qfa y.2) ro/\Vi (YS o acc) some=some pr/\
   (acc.all fun y=>(pr.any fun k=>Nat.beq k y.1)||ind y.2.2 ⟨gs++rs,ro,fr,o.dst,v,wo,[]⟩)=true/\(o.after.toList.all fun e=>!Region.binds .any e||Nat.blt e.on i)=true/\Xf (Qel σ ⟨gs++rs,ro,fr,o.dst,v,wo,[]⟩)=some σ'))
  (hK:ChA X nt ops N l ((i,pr,⟨gs++rs,ro,fr,o.dst,v,wo,[]⟩)::acc) (i+1) σ'):ChA X nt ops N (o::l) acc i σ:=zchG (ch:=[nm]) (kl:=[]) ⟨h1.1,h1.2.1,h1.2.2.1⟩ hop h2 hK
theorem QqL{ι:Type}{P:Program}{f:FuncId}{args:List AV}{obs:List (Nat×AO)}{ok:ι->Prop}{rs:ι->List AV}{obs':ι->List (Nat×AO)}(x0:ι)(h:MCalls P f args obs ok rs obs' (fun _=>[]))(h0:ok x0)(hu:∀x,ok x->x=x0):MCalls P f args obs (fun _:Unit=>True) (fun _=>rs x0) (fun _=>obs' x0) (fun _=>[]):=by
 refine⟨⟨h.1.1,fun _ _=>h.1.2 x0 h0⟩,fun w Zp eh us hm hk hs=>?_⟩
 obtain⟨a,d⟩:=h.2 w Zp eh us hm hk hs
 refine⟨a,d.mono fun e w' ⟨i,v,en,⟨hi,x⟩,r⟩=>?_⟩
 obtain rfl:=hu i hi
 exact⟨(),v,en,⟨trivial,x⟩,r⟩
attribute [local irreducible] AWp QI OpOk ACalls ChA QsOk MCalls NCalls EnC PY

def dr{α:Type}(b:List UInt8)(c:Cu)(n:Int)(f:Int->Cu->α):α:=f (QE b c n).1 (QE b c n).2
theorem aL{A B:Prop}(h:A/\B):A:=h.1
theorem QzG{α:Type}{b:List UInt8}{c:Cu}{n v p q:Int}{f:Int->Cu->α}{r:α}(h:QE b c n=(v,p,q))(hr:f v (p,q)=r):dr b c n f=r:=by
 unfold dr
 rw[h]
 exact hr
@[reducible] def addN (k:Nat) (x:Int):Int:=((k+x.toNat:Nat):Int)
def div3(x:Int):Int:=((x.toNat / 3:Nat):Int)
def jobF(b:List UInt8)(c:Cu):Job×Cu:=
 dr b c 30 fun i c=>dr b c 5 fun p c=>dr b c 3 fun n c=>dr b c 5 fun x c=>dr b c 9 fun y c=>dr b c 4 fun z c=>dr b c 20 fun w c=>dr b c 3 fun l c=>dr b c 3 fun k c=>
  if k=0 then dr b c 3 fun u c=>dr b c 2 fun v c=>(⟨addN 1 i,p,addN 1 n,⟨addN 1 x,y,div3 z⟩,⟨u,v,0⟩,addN 1 w,l⟩,c) else(⟨addN 1 i,p,addN 1 n,⟨addN 1 x,y,div3 z⟩,⟨0,0,0⟩,addN 1 w,l⟩,c)
def noJ:Job:=⟨0,0,0,⟨0,0,0⟩,⟨0,0,0⟩,0,0⟩
def cmdF(b:List UInt8)(c:Cu):Cmd×Cu:=
 dr b c 14 fun k c=>
  if k<6 then match jobF b c with|(j,c)=>(⟨1,j,0,⟨0,0,0⟩⟩,c)
  else if k<9 then dr b c 120 fun n c=>(⟨7,noJ,n,⟨0,0,0⟩⟩,c)
  else if k=9 then dr b c 6 fun x c=>dr b c 4 fun y c=>(⟨6,noJ,0,⟨x,y,0⟩⟩,c)
  else if k<12 then dr b c 2 fun x c=>dr b c 30 fun y c=>(⟨addN 2 x,noJ,addN 1 y,⟨0,0,0⟩⟩,c)
  else dr b c 2 fun x c=>dr b c 8 fun y c=>(⟨addN 4 x,noJ,y,⟨0,0,0⟩⟩,c)
theorem QyT{b:List UInt8}{c d:Cu}{j:Job}(h:jobF b c=(j,d)):(match jobF b c with|(j,c)=>((⟨1,j,0,⟨0,0,0⟩⟩,c):Cmd×Cu))=(⟨1,j,0,⟨0,0,0⟩⟩,d):=by rw[h]
theorem Qtb{b:List UInt8}{i h:Int}(hL:b.length<=1048576)(hI:0<=i/\i<=b.length):MCalls Tryz.prog 174 [.ptr 1000000 0] [(1000000,curO b i h)] (fun(x:Job×Int×Int)=>match x with|(v,p,q)=>jobF b (i,h)=(v,p,q)/\0<=p/\p<=b.length) (fun x=>match x with|(v,_,_)=>[jobA v]) (fun x=>match x with|(_,p,q)=>[(1000000,curO b p q)]) (fun _=>[]):=by
 refine Js tt func174 rfl rfl rfl ⟨rfl,trivial⟩ (fun _ _=>⟨⟨⟨rfl,rfl,rfl⟩,trivial⟩,rfl,trivial⟩) (fun w0 Z O=>?_)
 repeat'(first|(refine zhm fun hb=>?_;try exact zab)|refine zUto ?_|refine zg2 ?_ ?_|(refine km [1000000] (Jk hL (by omega)) rfl rfl (fun i hi=>?_) (hob:=rfl);obtain⟨iv,ip,ih⟩:=i;(try dsimp only at hi))|intro _)
 all_goals
  refine zp ?_
  refine' Yc ⟨⟨_,_,_,⟨_,_,_⟩,⟨_,_,_⟩,_,_⟩,_,_⟩ _ [] rfl ?_
  any_goals refine QcL.mk ?_ ?_ ?_ ?_ ?_
  any_goals (refine WD.mk ?_;(try dsimp only[vecA,jobA,cmdA]);exact rfl)
  repeat'(first|apply And.intro|exact zeb|refine zec ?_|exact zen|refine zeo ?_|exact zes|refine zet ?_|exact zel|refine zem ?_|exact zep|refine zeq1 ?_|refine zea ?_|refine zei ?_ ?_|refine zex ?_|(apply Q9;iterate 3 exact rfl)|exact rfl|exact trivial)
  all_goals first|exact zp rfl|(refine WD.mk ?_;exact⟨by(unfold jobF;(first|rfl|((repeat (first|(refine QzG (aL (by assumption)) ?_;(try dsimp only))|rw[if_pos (by omega)]|rw[if_neg (by omega)]));first|rfl|exact QyT (aL (by assumption))))),by omega⟩)
theorem Qug{b:List UInt8}{i h:Int}(hL:b.length<=1048576)(hI:0<=i/\i<=b.length):MCalls Tryz.prog 94 [.ptr 1000000 0] [(1000000,curO b i h)] (fun(x:Cmd×Int×Int)=>match x with|(v,p,q)=>cmdF b (i,h)=(v,p,q)/\0<=p/\p<=b.length) (fun x=>match x with|(v,_,_)=>[cmdA v]) (fun x=>match x with|(_,p,q)=>[(1000000,curO b p q)]) (fun _=>[]):=by
 refine Js tt func94 rfl rfl rfl ⟨rfl,trivial⟩ (fun _ _=>⟨⟨⟨rfl,rfl,rfl⟩,trivial⟩,rfl,trivial⟩) (fun w0 Z O=>?_)
 repeat'(first|(refine zhm fun hb=>?_;try exact zab)|refine zUto ?_|refine zg2 ?_ ?_|(refine km [1000000] (Jk hL (by omega)) rfl rfl (fun i hi=>?_) (hob:=rfl);obtain⟨d,c,a⟩:=i;(try dsimp only at hi))|(refine km [1000000] (Qtb hL (by omega)) rfl rfl (fun i hi=>?_) (hob:=rfl);obtain⟨d,c,a⟩:=i;(try dsimp only at hi))|intro _)
 all_goals
  refine zp ?_
  refine' Yc ⟨⟨_,⟨_,_,_,⟨_,_,_⟩,⟨_,_,_⟩,_,_⟩,_,⟨_,_,_⟩⟩,_,_⟩ _ [] rfl ?_
  any_goals refine QcL.mk ?_ ?_ ?_ ?_ ?_
  any_goals (refine WD.mk ?_;(try dsimp only[vecA,jobA,cmdA]);exact rfl)
  repeat'(first|apply And.intro|exact zeb|refine zec ?_|exact zen|refine zeo ?_|exact zes|refine zet ?_|exact zel|refine zem ?_|exact zep|refine zeq1 ?_|refine zea ?_|refine zei ?_ ?_|refine zex ?_|(apply Q9;iterate 3 exact rfl)|exact rfl|exact trivial)
  all_goals first|exact zp rfl|(refine WD.mk ?_;exact⟨by(unfold cmdF;(first|rfl|((repeat (first|(refine QzG (aL (by assumption)) ?_;(try dsimp only))|rw[if_pos (by omega)]|rw[if_neg (by omega)]));first|rfl|exact QyT (aL (by assumption))))),by omega⟩)
theorem Ym(b:List UInt8)(c:Cu){n:Int}(h:0<n):0<=(QE b c n).1/\(QE b c n).1<n:=by
 unfold QE
 rw[if_neg (by omega)]
 split
 ·rcases Qve (k:=(WB b c).1.toNat) h with h'|h'
  ·omega
  ·exact h'
 ·rcases Qve (k:=(WB b c).1.toNat*16777216+(WB b (WB b c).2).1.toNat*65536+(WB b (WB b (WB b c).2).2).1.toNat*256+(WB b (WB b (WB b (WB b c).2).2).2).1.toNat) h with h'|h'
  ·omega
  ·exact h'
theorem QbH(b:List UInt8){c:Cu}(h:0<=c.1/\c.1<=b.length):0<=(WB b c).2.1/\(WB b c).2.1<=b.length:=by
 unfold WB
 split
 ·dsimp only
  omega
 ·exact h
theorem Qa1(b:List UInt8){c:Cu}(n:Int)(h:0<=c.1/\c.1<=b.length):0<=(QE b c n).2.1/\(QE b c n).2.1<=b.length:=by
 unfold QE
 split
 ·exact h
 ·split
  ·exact QbH b h
  ·exact QbH b (QbH b (QbH b (QbH b h)))
theorem Yv{b:List UInt8}{i h n:Int}{v p q:Int}(hn:0<n)(hI:0<=i/\i<=b.length)(e:QE b (i,h) n=(v,p,q)):(0<=v/\v<n)/\0<=p/\p<=b.length:=by
 have a:=Ym b (i,h) hn
 have d:=Qa1 b (c:=(i,h)) n hI
 rw[e]at a d
 exact⟨a,d⟩
theorem XU{b:List UInt8}{i h n v p q:Int}(hL:b.length<=1048576)(hn:0<n)(hI:0<=i/\i<=b.length)(e:QE b (i,h) n=(v,p,q)):MCalls Tryz.prog 38 [.ptr 1000000 0,zI n] [(1000000,curO b i h)] (fun(_:Unit)=>True) (fun _=>[zI v]) (fun _=>[(1000000,curO b p q)]) (fun _=>[]):=
 QqL (v,p,q) (Jk hL hI) ⟨e,Or.inr (Yv hn hI e).1,(Yv hn hI e).2⟩ (fun _ hx=>hx.1.symm.trans e)
end
section
attribute [local irreducible] AWp QI OpOk ACalls ChA QsOk MCalls NCalls EnC PY

def Vr(b:List UInt8)(s:Qb)(c:Cu):Cmd×Cu:=
 if(cmdF b c).1.kind=7 then dr b (cmdF b c).2 15 fun n e=>({ (cmdF b c).1 with n:=((s.now.toNat+n.toNat:Nat):Int) },e)
 else if((cmdF b c).1.kind=2\/(cmdF b c).1.kind=3)/\0<(allJ s).length then dr b (cmdF b c).2 (allJ s).length fun n e=>({ (cmdF b c).1 with n:=(nth (allJ s) n.toNat).id },e)
 else if(cmdF b c).1.kind=4\/(cmdF b c).1.kind=5 then dr b (cmdF b c).2 s.topo.nodes.length fun n e=>({ (cmdF b c).1 with n:=n },e)
 else cmdF b c
section
variable {b:List UInt8} {s:Qb} {c d e:Cu} {x:Cmd} {n:Int}
theorem Qzv(h:cmdF b c=(x,d))(hk:x.kind=7)(hn:QE b d 15=(n,e)):Vr b s c=(⟨x.kind,x.job,((s.now.toNat+n.toNat:Nat):Int),x.lic⟩,e):=by
 unfold Vr dr
 rw[h,if_pos hk,hn]
theorem Qzt(h:cmdF b c=(x,d))(hk:x.kind=2\/x.kind=3)(ha:0<(allJ s).length)(hn:QE b d (allJ s).length=(n,e)):Vr b s c=(⟨x.kind,x.job,(nth (allJ s) n.toNat).id,x.lic⟩,e):=by
 unfold Vr dr
 rw[h,if_neg (by dsimp only;omega),if_pos ⟨hk,ha⟩,hn]
theorem Qzu(h:cmdF b c=(x,d))(hk:x.kind=4\/x.kind=5)(hn:QE b d s.topo.nodes.length=(n,e)):Vr b s c=(⟨x.kind,x.job,n,x.lic⟩,e):=by
 unfold Vr dr
 rw[h,if_neg (by dsimp only;omega),if_neg (by dsimp only;omega),if_pos hk,hn]
theorem Qzw(h:cmdF b c=(x,d))(h7:x.kind≠7)(h2:¬((x.kind=2\/x.kind=3)/\0<(allJ s).length))(h4:¬(x.kind=4\/x.kind=5)):Vr b s c=(x,d):=by
 unfold Vr
 rw[h,if_neg h7,if_neg h2,if_neg h4]
end
abbrev OkC(b:List UInt8)(c:Cu):Prop:=0<=c.1/\c.1<=b.length
theorem QkH{α:Type}{b:List UInt8}{c:Cu}{n:Int}{f:Int->Cu->α×Cu}(h:OkC b c)(hf:∀v c',OkC b c'->OkC b (f v c').2):OkC b (dr b c n f).2:=hf _ _ (Qa1 b n h)
theorem Qwm(b:List UInt8){c:Cu}(h:OkC b c):OkC b (jobF b c).2:=by
 unfold jobF
 iterate 9 (refine QkH (by assumption) fun _ _ _=>?_)
 split
 ·iterate 2 (refine QkH (by assumption) fun _ _ _=>?_)
  assumption
 ·assumption
theorem QwS(b:List UInt8){c:Cu}(h:OkC b c):OkC b (cmdF b c).2:=by
 unfold cmdF
 refine QkH h fun k c' h'=>?_
 repeat' split
 ·rename_i j a e
  have:=Qwm b h'
  rw[e]at this
  exact this
 all_goals
  repeat (refine QkH (by assumption) fun _ _ _=>?_)
  assumption
theorem Qgw{b:List UInt8}(s:Qb){i h p q:Int}{x:Cmd}(hI:0<=i/\i<=b.length)(e:Vr b s (i,h)=(x,p,q)):0<=p/\p<=b.length:=by
 have a:0<=(Vr b s (i,h)).2.1/\(Vr b s (i,h)).2.1<=b.length:=by
  have d:=QwS b (c:=(i,h)) hI
  unfold Vr dr
  repeat' split
  all_goals first|exact d|exact Qa1 b _ d
 rw[e]at a
 exact a
attribute [local irreducible] QE WB cmdF jobF Vr
theorem Qd1{b:List UInt8}{s:Qb}{i h:Int}(hL:b.length<=1048576)(hI:0<=i/\i<=b.length)(hs:Qj 1048576 s)(hn:0<=s.now/\s.now<=1000000000):MCalls Tryz.prog 35 [.ptr 1000000 0,Qt s] [(1000000,curO b i h)] (fun(x:Cmd×Int×Int)=>match x with|(v,p,q)=>Vr b s (i,h)=(v,p,q)/\0<=p/\p<=b.length) (fun x=>match x with|(v,_,_)=>[cmdA v]) (fun x=>match x with|(_,p,q)=>[(1000000,curO b p q)]) (fun _=>[]):=by
 refine Js tt func35 rfl rfl rfl ⟨rfl,trivial⟩ (fun _ _=>⟨⟨⟨rfl,rfl,rfl⟩,trivial⟩,rfl,trivial⟩) (fun w0 Z O=>?_)
 have f:=XZ (hs.mono (m:=1000000000) (by omega))
 have g:=Ql (allJ s)
 have l:=hs.que
 have n:=hs.run
 have e:(allJ s).length=s.queue.length+s.runs.length:=by unfold allJ;rw[Xaa,XaB]
 have j:=Qz s.topo.nodes
 have k:=hs.nod
 repeat'(first|(refine zhm fun hb=>?_;try exact zab)|refine zUtp ?_|refine zg2 ?_ ?_|(refine km [1000000] (Qug hL (by omega)) rfl rfl (fun i hi=>?_) (hob:=rfl);obtain⟨d,c,a⟩:=i;(try dsimp only at hi))|(refine km [1000000] (Jk hL (by omega)) rfl rfl (fun i hi=>?_) (hob:=rfl);obtain⟨d,c,a⟩:=i;(try dsimp only at hi))|refine kmu f ?_|intro _)
 ·repeat'(first|refine zst ?_|(refine zhm fun hb=>?_;try exact zab)|(apply QsC 4;exact rfl;exact rfl;exact rfl)|refine zdr ?_|(apply zch;exact zcg)|refine zpp fun w0 Z O=>?_|exact zhk|(apply QiY;exact rfl)|(apply Qws;exact rfl;exact rfl;exact rfl;kernel_rfl;kernel_rfl;exact rfl)|(apply QxW;exact rfl)|(apply Qzg;exact rfl)|apply QvN|(apply QvD;exact rfl;exact rfl;exact rfl)|refine zg3 ?_ ?_|refine zln fun _=>?_|refine zop ?_|(refine km [1000000] (Jk hL (by omega)) rfl rfl (fun i hi=>?_) (hob:=rfl);obtain⟨d,c,a⟩:=i;(try dsimp only at hi))|fail)
  all_goals
   refine zp ?_
   refine' Yc ⟨⟨_,⟨_,_,_,⟨_,_,_⟩,⟨_,_,_⟩,_,_⟩,_,⟨_,_,_⟩⟩,_,_⟩ _ [] rfl ?_
   any_goals refine QcL.mk ?_ ?_ ?_ ?_ ?_
   any_goals (refine WD.mk ?_;(try dsimp only[cmdA]);exact rfl)
   repeat'(first|apply And.intro|exact zeb|refine zec ?_|exact zen|refine zeo ?_|exact zes|refine zet ?_|exact zel|refine zem ?_|exact zep|refine zeq1 ?_|refine zea ?_|refine zei ?_ ?_|refine zex ?_|(apply Q9;iterate 3 exact rfl)|exact rfl|exact trivial)
   all_goals first|exact zp rfl|(refine WD.mk ?_;exact⟨by(apply Eq.trans;apply Qzv;exact aL (by assumption);assumption;exact aL (by assumption);rfl),by omega⟩)
 all_goals
  refine zp ?_
  refine' Yc ⟨⟨_,⟨_,_,_,⟨_,_,_⟩,⟨_,_,_⟩,_,_⟩,_,⟨_,_,_⟩⟩,_,_⟩ _ [] rfl ?_
  any_goals refine QcL.mk ?_ ?_ ?_ ?_ ?_
  any_goals (refine WD.mk ?_;(try dsimp only[cmdA]);exact rfl)
  repeat'(first|apply And.intro|exact zeb|refine zec ?_|exact zen|refine zeo ?_|exact zes|refine zet ?_|exact zel|refine zem ?_|exact zep|refine zeq1 ?_|refine zea ?_|refine zei ?_ ?_|refine zex ?_|(apply Q9;iterate 3 exact rfl)|exact rfl|exact trivial)
  all_goals first|exact zp rfl|(refine WD.mk ?_;exact⟨by(first|(apply Eq.trans;apply Qzt;exact aL (by assumption);(first|exact Or.inl (by assumption)|exact Or.inr (by assumption));omega;exact aL (by assumption);rfl)|(apply Eq.trans;apply Qzu;exact aL (by assumption);(first|exact Or.inl (by assumption)|exact Or.inr (by assumption));exact aL (by assumption);rfl)|(apply Eq.trans;apply Qzw;exact aL (by assumption);assumption;omega;omega;rfl)),by omega⟩)
theorem Qyh{b:List UInt8}{s:Qb}{i h p q:Int}{x:Cmd}(hL:b.length<=1048576)(hI:0<=i/\i<=b.length)(hs:Qj 1048576 s)(hn:0<=s.now/\s.now<=1000000000)(e:Vr b s (i,h)=(x,p,q)):MCalls Tryz.prog 35 [.ptr 1000000 0,Qt s] [(1000000,curO b i h)] (fun(_:Unit)=>True) (fun _=>[cmdA x]) (fun _=>[(1000000,curO b p q)]) (fun _=>[]):=
 QqL (x,p,q) (Qd1 hL hI hs hn) ⟨e,Qgw s hI e⟩ (fun _ hx=>hx.1.symm.trans e)
noncomputable def ctl1 (s:Qb):Ctl:=if Jt s=true then⟨s,s,⟨[],0,0⟩⟩else zC
noncomputable def wld1 (s:Qb):Wld:=if Jt s=true then⟨false,s,zC,[],[]⟩else zW
theorem QsU{s:Qb}(hs:Qj 100000000 s):DC Tryz.prog 91 [Qt s] [ctlA (ctl1 s),.d (.b (Jt s))]:=by
 unfold ctl1
 cases a:Jt s with
 | true=>rw[if_pos rfl];exact WE (dc_a (QsB hs (pB_t.1 a)))
 | false=>rw[if_neg (by decide)];exact WE (dc_a (QsW hs (pB_f.1 a)))
theorem Qnb{s:Qb}(hs:Qj 100000000 s):DC Tryz.prog 120 [Qt s] [wldA (wld1 s),.d (.b (Jt s))]:=by
 unfold wld1
 cases a:Jt s with
 | true=>rw[if_pos rfl];exact WE (dc_a (QnY hs (pB_t.1 a)))
 | false=>rw[if_neg (by decide)];exact WE (dc_a (Qnz hs (pB_f.1 a)))
end
section

def ZN(s:Int):Nat->List Int->List Int->List Int×List Int
 | 0,par,nx=>(par,nx)
 | n+1,par,nx=>if par.length<18 then ZN s n (par++[s]) (nx++[(par.length:Int)]) else(par,nx)
def rowG(b:List UInt8):List Int->List Int->List Int->Cu->(List Int×List Int)×Cu
 | [],par,nx,c=>((par,nx),c)
 | s::l,par,nx,c=>rowG b l (ZN s (1+(QE b c 3).1).toNat par nx).1 (ZN s (1+(QE b c 3).1).toNat par nx).2 (QE b c 3).2
def lvlG(b:List UInt8):Nat->List Int->List Int->Cu->(List Int×List Int)×Cu
 | 0,par,last,c=>((par,last),c)
 | k+1,par,last,c=>lvlG b k (rowG b last par [] c).1.1 (if(rowG b last par [] c).1.2=[]then last else(rowG b last par [] c).1.2) (rowG b last par [] c).2
def nodG(b:List UInt8)(par last:List Int):Nat->List Qax->Cu->List Qax×Cu
 | 0,ns,c=>(ns,c)
 | n+1,ns,c=>dr b c last.length fun j c=>
   if Z3 par (nth last j.toNat)=[]then dr b c 5 fun x c=>dr b c 9 fun y c=>dr b c 3 fun z c=>nodG b par last n (ns++[⟨nth last j.toNat,⟨addN 4 x,addN 8 y,z⟩⟩]) c
   else nodG b par last n ns c
def topF(b:List UInt8)(c:Cu):QT×Cu:=
 dr b c 3 fun k c=>dr b (lvlG b k.toNat [0] [0] c).2 10 fun n e=>
  (⟨(lvlG b k.toNat [0] [0] c).1.1,(nodG b (lvlG b k.toNat [0] [0] c).1.1 (lvlG b k.toNat [0] [0] c).1.2 (1+n).toNat [] e).1⟩,(nodG b (lvlG b k.toNat [0] [0] c).1.1 (lvlG b k.toNat [0] [0] c).1.2 (1+n).toNat [] e).2)
theorem Qvq{b:List UInt8}{c d e f g:Cu}{k n:Int}{par last:List Int}{ns:List Qax}(h1:QE b c 3=(k,d))(h2:lvlG b k.toNat [0] [0] d=((par,last),e))(h3:QE b e 10=(n,f))(h4:nodG b par last (1+n).toNat [] f=(ns,g)):topF b c=(⟨par,ns⟩,g):=by
 unfold topF dr
 rw[h1]
 dsimp only
 rw[h2]
 dsimp only
 rw[h3]
 dsimp only
 rw[h4]
theorem QjJ(s:Int):∀(n:Nat) (par nx:List Int),par.length<=18->nx.length<=par.length->par.length<=(ZN s n par nx).1.length/\(ZN s n par nx).1.length<=18/\(ZN s n par nx).2.length<=(ZN s n par nx).1.length
 | 0,par,nx,h,h'=>⟨Xaj _,h,h'⟩
 | n+1,par,nx,h,h'=>by
  unfold ZN
  split
  ·have:=QjJ s n (par++[s]) (nx++[(par.length:Int)]) (by rw[Xaa,Xap];omega) (by rw[Xaa,Xaa,Xap,Xap];omega)
   rw[Xaa,Xap]at this
   omega
  ·exact⟨Xaj _,h,h'⟩
noncomputable def Qje (t:QT) (lic:V3) (d:Int):Qb:=if Qe ⟨t,List.replicate t.nodes.length true,lic,d,0,[],[],[]⟩=true then⟨t,List.replicate t.nodes.length true,lic,d,0,[],[],[]⟩else zS
noncomputable def stF (b:List UInt8) (c:Cu):Qb×Cu:=
 dr b (topF b c).2 6 fun x e=>dr b e 4 fun y e=>dr b e 4 fun d e=>(Qje (topF b c).1 ⟨x,y,1⟩ d,e)
theorem Qzx{b:List UInt8}{c e f g h:Cu}{x y d:Int}{t:QT}(h0:topF b c=(t,e))(h1:QE b e 6=(x,f))(h2:QE b f 4=(y,g))(h3:QE b g 4=(d,h)):stF b c=(Qje t ⟨x,y,1⟩ d,h):=by
 unfold stF dr
 rw[h0]
 dsimp only
 rw[h1]
 dsimp only
 rw[h2]
 dsimp only
 rw[h3]
theorem Qxa{t:QT}{lic:V3}{d:Int}{n:Nat}(h1:t.parents.length<=n)(h2:t.nodes.length<=n):Qj n (Qje t lic d):=by
 unfold Qje
 split
 ·refine⟨h1,h2,by rw[Xbd];exact h2,Xad _,Xad _,Xad _,fun j hj=>absurd hj (Xar _)⟩
 ·exact V6 n
def rowS:List Int->List Nat->List Int->List Int->List Int×List Int
 | s::l,n::ns,par,nx=>rowS l ns (ZN s n par nx).1 (ZN s n par nx).2
 | _,_,par,nx=>(par,nx)
theorem QlQ(b:List UInt8):∀(l par nx:List Int) (c:Cu),∃ns:List Nat,ns.length=l.length/\(∀n∈ns,1<=n/\n<=3)/\(rowG b l par nx c).1=rowS l ns par nx
 | [],par,nx,c=>⟨[],rfl,(fun _ h=>by cases h),rfl⟩
 | s::l,par,nx,c=>by
  obtain⟨ns,h1,h2,h3⟩:=QlQ b l (ZN s (1+(QE b c 3).1).toNat par nx).1 (ZN s (1+(QE b c 3).1).toNat par nx).2 (QE b c 3).2
  refine⟨(1+(QE b c 3).1).toNat::ns,by rw[Xao,Xao,h1],fun n hn=>?_,?_⟩
  ·rcases Xai.1 hn with rfl|h
   ·have:=Ym b c (n:=3) (by decide)
    omega
   ·exact h2 n h
  ·unfold rowG
   rw[h3]
   rfl
def Qjg(k:Nat)(r:List Int×List Int):Bool:=
 decide (1<=r.1.length/\r.1.length<=18/\nth r.1 0=0/\1<=r.2.length)&&((List.range r.1.length).all fun j=>decide (1<=j->0<=nth r.1 j/\nth r.1 j<j))&&((List.range r.1.length).all fun j=>!YU r.1 j||decide (dpt r.1 j=k))&&(r.2.all fun s=>decide (0<=s/\s<r.1.length)&&YU r.1 s)
def cnt:List Nat:=[1,2,3]
def nxt(r:List Int×List Int):List Int:=if r.2=[] then[0]else r.2
def tree1(a:Nat):List Int×List Int:=rowS [0] [a] [0] []
theorem QxJ:Qjg 0 ([0],[0])=true:=by decide
theorem Qu3:(cnt.all fun a=>Qjg 1 (tree1 a)&&decide ((tree1 a).2.length<=3/\(tree1 a).2≠[]))=true:=by decide
theorem QyF:(cnt.all fun a=>cnt.all fun x=>cnt.all fun y=>cnt.all fun z=>Qjg 2 (rowS (tree1 a).2 [x,y,z] (tree1 a).1 [])&&decide ((rowS (tree1 a).2 [x,y,z] (tree1 a).1 []).2≠[]))=true:=by decide
theorem Qg3:∀(l:List Int) (ns ms:List Nat) (par nx:List Int),ns.length=l.length->rowS l (ns++ms) par nx=rowS l ns par nx
 | [],[],ms,par,nx,_=>by cases ms <;> rfl
 | s::l,n::ns,ms,par,nx,h=>by
  rw[Xa0,rowS,rowS]
  exact Qg3 l ns ms _ _ (by simpa using h)
theorem XR{n:Nat}(h:1<=n/\n<=3):n∈cnt:=by
 have:n=1\/n=2\/n=3:=by omega
 rcases this with rfl|rfl|rfl <;> decide
theorem Qtd(b:List UInt8):∀(k:Nat),k<=2->∀c,Qjg k (lvlG b k [0] [0] c).1=true
 | 0,_,c=>QxJ
 | 1,_,c=>by
  obtain⟨ns,h1,h2,h3⟩:=QlQ b [0] [0] [] c
  obtain⟨a,rfl⟩:=List.length_eq_one_iff.1 h1
  have hg:=Xaw.1 Qu3 a (XR (h2 a Xac))
  rw[Xab,decide_eq_true_eq]at hg
  show Qjg 1 ((rowG b [0] [0] [] c).1.1,if(rowG b [0] [0] [] c).1.2=[] then[0] else(rowG b [0] [0] [] c).1.2)=true
  have h3':(rowG b [0] [0] [] c).1=tree1 a:=h3
  rw[h3',if_neg hg.2.2]
  exact hg.1
 | 2,_,c=>by
  obtain⟨ns,h1,h2,h3⟩:=QlQ b [0] [0] [] c
  obtain⟨a,rfl⟩:=List.length_eq_one_iff.1 h1
  have ha:=XR (h2 a Xac)
  have hg:=Xaw.1 Qu3 a ha
  rw[Xab,decide_eq_true_eq]at hg
  obtain⟨_,hl,hne⟩:=hg
  have h3':(rowG b [0] [0] [] c).1=tree1 a:=h3
  obtain⟨ms,m1,m2,m3⟩:=QlQ b (tree1 a).2 (tree1 a).1 [] (rowG b [0] [0] [] c).2
  have hm:∃x y z,x∈cnt/\y∈cnt/\z∈cnt/\rowS (tree1 a).2 ms (tree1 a).1 []=rowS (tree1 a).2 [x,y,z] (tree1 a).1 []:=by
   have h0:=Xbb.2 hne
   match ms,m1,m2 with
   | [],m1,_=>simp at m1;omega
   | [x],m1,m2=>exact⟨x,1,1,XR (m2 x (by simp)),by decide,by decide,(Qg3 _ [x] [1,1] _ _ m1).symm⟩
   | [x,y],m1,m2=>exact⟨x,y,1,XR (m2 x (by simp)),XR (m2 y (by simp)),by decide,(Qg3 _ [x,y] [1] _ _ m1).symm⟩
   | [x,y,z],m1,m2=>exact⟨x,y,z,XR (m2 x (by simp)),XR (m2 y (by simp)),XR (m2 z (by simp)),rfl⟩
   | x::y::z::w::q,m1,_=>simp at m1;omega
  obtain⟨x,y,z,hx,hy,hz,hr⟩:=hm
  have h4:=Xaw.1 (Xaw.1 (Xaw.1 (Xaw.1 QyF a ha) x hx) y hy) z hz
  rw[Xab,decide_eq_true_eq]at h4
  have e:lvlG b 2 [0] [0] c=lvlG b 1 (tree1 a).1 (tree1 a).2 (rowG b [0] [0] [] c).2:=by
   rw[lvlG,h3',if_neg hne]
  rw[e]
  show Qjg 2 ((rowG b (tree1 a).2 (tree1 a).1 [] _).1.1,if(rowG b (tree1 a).2 (tree1 a).1 [] _).1.2=[]then _ else(rowG b (tree1 a).2 (tree1 a).1 [] _).1.2)=true
  rw[m3,hr,if_neg h4.2]
  exact h4.1
theorem QvM{k:Nat}{par last:List Int}(h:Qjg k (par,last)=true):(1<=par.length/\par.length<=18)/\nth par 0=0/\Ya par/\QnE par/\0<last.length/\∀s∈last,(0<=s/\s<par.length)/\YU par s=true:=by
 unfold Qjg at h
 rw[Xab,Xab,Xab,decide_eq_true_eq]at h
 obtain⟨⟨⟨⟨b,c,d,e⟩,f⟩,g⟩,i⟩:=h
 have a:∀s,s<par.length->YU par (s:Int)=true->dpt par s=k:=fun s hs hl=>by
  have:=Xaw.1 g s (XbE.2 hs)
  rw[hl]at this
  exact of_decide_eq_true this
 refine⟨⟨b,c⟩,d,fun j hj hj'=>?_,fun s s' hs hs' hl hl'=>by rw[a s hs hl,a s' hs' hl'],e,fun s hs=>?_⟩
 ·exact of_decide_eq_true (Xaw.1 f j (XbE.2 hj')) hj
 ·have:=Xaw.1 i s hs
  rw[Xab,decide_eq_true_eq]at this
  exact this
theorem Qkh{b:List UInt8}{par last:List Int}(hl:0<last.length)(hg:∀s∈last,(0<=s/\s<par.length)/\YU par s=true):∀(n:Nat) (ns:List Qax) (c:Cu),(∀x∈ns,QdM par x)->ns.length+n<=10->(∀x∈(nodG b par last n ns c).1,QdM par x)/\(nodG b par last n ns c).1.length<=10
 | 0,ns,c,h,h'=>⟨h,by rw[nodG];omega⟩
 | n+1,ns,c,h,h'=>by
  rw[nodG]
  unfold dr
  have hj:=Ym b c (n:=(last.length:Int)) (by omega)
  dsimp only
  split
  ·refine Qkh hl hg n _ _ (fun x hx=>?_) (by rw[Xaa,Xap];omega)
   rcases Xag.1 hx with hx|hx
   ·exact h x hx
   ·rw[XaH]at hx
    subst hx
    obtain⟨g1,g2⟩:=hg _ (QC (l:=last) (j:=(QE b c (last.length:Int)).1.toNat) (by omega))
    refine⟨g1,g2,?_⟩
    have b1:=Ym b (QE b c (last.length:Int)).2 (n:=5) (by decide)
    have b2:=Ym b (QE b (QE b c (last.length:Int)).2 5).2 (n:=9) (by decide)
    have b3:=Ym b (QE b (QE b (QE b c (last.length:Int)).2 5).2 9).2 (n:=3) (by decide)
    unfold Qf
    rw[Xab,Xab,JA,JA,JA]
    dsimp only[addN]
    omega
  ·exact Qkh hl hg n _ _ h (by omega)
theorem Qvf(b:List UInt8)(c:Cu):QW (topF b c).1:=by
 unfold topF dr
 dsimp only
 have hk:=Ym b c (n:=3) (by decide)
 have a:=Qtd b (QE b c 3).1.toNat (by omega) (QE b c 3).2
 generalize lvlG b (QE b c 3).1.toNat [0] [0] (QE b c 3).2=R at a ⊢
 obtain⟨⟨m,e⟩,d⟩:=R
 dsimp only at a ⊢
 obtain⟨g1,f,g,h,i,k⟩:=QvM a
 have hn:=Ym b d (n:=10) (by decide)
 obtain⟨l,n2⟩:=Qkh (b:=b) i k (1+(QE b d 10).1).toNat [] (QE b d 10).2 (fun x hx=>by cases hx) (by rw[XaA];omega)
 exact⟨by dsimp only;omega,f,by dsimp only;omega,g,h,fun j hj=>l _ (QC hj)⟩
theorem QxN{t:QT}{x y d:Int}(ht:QW t)(hx:0<=x/\x<6)(hy:0<=y/\y<4)(hd:0<=d/\d<4):Qe ⟨t,List.replicate t.nodes.length true,⟨x,y,1⟩,d,0,[],[],[]⟩=true:=by
 have hb:Qda ⟨t,List.replicate t.nodes.length true,⟨x,y,1⟩,d,0,[],[],[]⟩:=by
  refine⟨ht,Xbd,?_,by dsimp only;omega⟩
  unfold Qf
  rw[Xab,Xab,JA,JA,JA]
  dsimp only
  omega
 refine pB_t.2 ⟨?_,⟨by dsimp only;omega,by dsimp only;omega⟩,⟨Xad _,fun i hi=>absurd hi (Xar _),fun i hi=>absurd hi (Xar _)⟩,Xad _,fun j hj=>absurd hj (Xar _),fun j hj=>absurd hj (Xar _)⟩
 unfold Jg
 rw[pB_t.2 hb]
 rfl
theorem Qp6(b:List UInt8)(c:Cu):Jt (stF b c).1=true:=by
 unfold stF dr
 dsimp only
 unfold Qje
 have d:=Ym b (topF b c).2 (n:=6) (by decide)
 have e:=Ym b (QE b (topF b c).2 6).2 (n:=4) (by decide)
 have f:=Ym b (QE b (QE b (topF b c).2 6).2 4).2 (n:=4) (by decide)
 have a:=QxN (Qvf b c) d e f
 rw[if_pos a]
 exact pB_t.2 ⟨a,rfl,rfl,rfl⟩
end
end Go.Proofs.YtkdniahincpmaaaGreat
