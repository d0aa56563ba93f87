/-
  Draws: a world and its steps.
-/
import Derived.Test.YtkdniahincpmaaaGreatKB47
import Derived.Test.YtkdniahincpmaaaGreatKB44
set_option maxRecDepth 100000
set_option maxHeartbeats 16000000
namespace Go.Proofs.YtkdniahincpmaaaGreat
open Go Go.RowKit Tryz
section
attribute [local irreducible] AWp QI OpOk ACalls ChA QsOk MCalls NCalls EnC PY

def noC:Cmd:=⟨0,noJ,0,⟨0,0,0⟩⟩
def QnZ(b:List UInt8)(x:Cmd)(k:Int)(c:Cu):WA×Cu:=
 if k=0 then(⟨3,noC,0⟩,c)else if k=1 then(⟨4,noC,0⟩,c)else if k<4 then dr b c 40 fun n c=>(⟨2,x,n⟩,c) else(⟨1,x,0⟩,c)
def XF(b:List UInt8)(w:Wld)(c:Cu):WA×Cu:=
 dr b c 20 fun k c=>if w.up=true then QnZ b (Vr b w.ctl.state c).1 k (Vr b w.ctl.state c).2 else if 4<k then(⟨4,noC,0⟩,c)else QnZ b ⟨7,noJ,1,⟨0,0,0⟩⟩ k c
noncomputable def X1 (b:List UInt8):Nat->Wld->List WA->Cu->List WA×Cu
 | 0,_,l,c=>(l,c)
 | n+1,w,l,c=>X1 b n (doO w (XF b w c).1) (l++[(XF b w c).1]) (XF b w c).2
theorem Qr8{b:List UInt8}{n:Nat}{w:Wld}{l:List WA}{c d:Cu}{x:WA}(h:XF b w c=(x,d)):X1 b (n+1) w l c=X1 b n (doO w x) (l++[x]) d:=by
 rw[X1,h]
def goS:WA:=⟨4,noC,0⟩
noncomputable def allF (b:List UInt8) (w:Wld) (m:Int) (c:Cu):List WA×Cu:=dr b c ((m.toNat+1:Nat):Int) fun n c=>X1 b n.toNat (doO w goS) [goS] c
noncomputable def QxC (b:List UInt8):Wld×List WA:=(wld1 (stF b (newF b)).1,(allF b (wld1 (stF b (newF b)).1) 16 (stF b (newF b)).2).1)
structure Qut (w:Wld):Prop where
 small:Zh w
 ok:QG w=true\/w=zW
theorem Qut.now{w:Wld}(h:Qut w):0<=w.ctl.state.now/\w.ctl.state.now<=1000000000:=by
 rcases h.ok with h|rfl
 ·cases a:w.up with
  | true=>exact Qp1 (Wv.1 (QbV h a)).2.2.2
  | false=>
   have:Z7 w.ctl=true:=by
    unfold QG at h
    rw[a,Xab,Xab]at h
    exact h.2.1
   have b:w.ctl.state=zS:=by
    unfold Z7 at this
    rw[Xab,Xab]at this
    exact pB_t.1 this.2.1
   rw[b]
   decide
 ·decide
theorem Qut.next{w:Wld}(x:WA)(h:Qut w):Qut (doO w x):=by
 refine⟨Qxt h.small,?_⟩
 rcases h.ok with h|rfl
 ·exact Or.inl (Qlj h).2
 ·exact Or.inr (if_neg (by rw[QxL];decide))
theorem Qo2{s:Qb}(hf:Jt s=true):QG (wld1 s)=true:=by
 unfold wld1
 rw[if_pos hf]
 unfold QG
 rw[hf,Qqx]
 dsimp only
 rw[QdH (s':=s) hf (Xad _) rfl]
 rfl
theorem QoC{s:Qb}(h:Qj 1048576 s):Qut (wld1 s)/\(wld1 s).codes=[]:=by
 cases a:Jt s with
 | true=>
  have b:=Qo2 a
  have e:wld1 s=⟨false,s,zC,[],[]⟩:=if_pos a
  rw[e]at b ⊢
  exact⟨⟨⟨h,QjF _,Xad _⟩,Or.inl b⟩,rfl⟩
 | false=>
  have e:wld1 s=zW:=if_neg (by rw[a];decide)
  rw[e]
  exact⟨⟨QlB.v,Or.inr rfl⟩,rfl⟩
theorem QkM{s:Qb}(hs:Qj 1048576 s):DC Tryz.prog 120 [Qt s] [wldA (wld1 s),.d (.b (Jt s))]:=Qnb (hs.mono (by omega))
theorem Qt9{b:List UInt8}{i h:Int}(hL:b.length<=1048576)(hI:0<=i/\i<=b.length):MCalls Tryz.prog 50 [.ptr 1000000 0] [(1000000,curO b i h)] (fun(x:Qb×Int×Int)=>match x with|(s,p,q)=>(stF b (i,h)=(s,p,q)/\Qj 1048576 s)/\0<=p/\p<=b.length) (fun x=>match x with|(s,_,_)=>[wldA (wld1 s)]) (fun x=>match x with|(_,p,q)=>[(1000000,curO b p q)]) (fun _=>[]):=by
 refine Js tt func50 rfl rfl rfl ⟨rfl,trivial⟩ (fun _ _=>⟨⟨⟨rfl,rfl,rfl⟩,trivial⟩,rfl,trivial⟩) (fun w0 Z O=>?_)
 repeat'(first|(refine zhm fun hb=>?_;try exact zab)|refine Qd ?_|(apply zch;exact zcg)|exact zhk|refine zg3 ?_ ?_|(refine km [1000000] (Qmx hL (by omega)) rfl rfl (fun i hi=>?_) (hob:=rfl);obtain⟨c,ip,ih⟩:=i;(try dsimp only at hi))|intro _)
 obtain⟨s1,rfl⟩:∃z,z=c:=⟨c,rfl⟩
 have a:=hi
 have d:=QkM a.1.2
 repeat'(first|(refine zhm fun hb=>?_;try exact zab)|refine Qd ?_|(apply zch;exact zcg)|exact zhk|refine zg3 ?_ ?_|refine kmu d ?_|intro _)
 refine zp ?_
 refine' Yc ⟨s1,_,_⟩ _ [] rfl ?_
 any_goals refine QcL.mk ?_ ?_ ?_ ?_ ?_
 any_goals (refine WD.mk ?_;(try dsimp only[wldA,wldC,Q3,ctlC,jnC]);exact rfl)
 repeat'(first|apply And.intro|exact zeb|refine zec ?_|exact zen|refine zeo ?_|exact zes|refine zet ?_|exact zel|refine zem ?_|exact zep|refine zeq1 ?_|refine zea ?_|refine zei ?_ ?_|refine zex ?_|(apply Q9;iterate 3 exact rfl)|exact rfl|exact trivial)
 all_goals first|exact zp rfl|(refine WD.mk ?_;exact⟨a.1,by omega⟩)
theorem Qy7{b:List UInt8}{w:Wld}{c d e:Cu}{k:Int}{x:Cmd}{r:WA×Cu}(h1:QE b c 20=(k,d))(hu:w.up=true)(h2:Vr b w.ctl.state d=(x,e))(hr:QnZ b x k e=r):XF b w c=r:=by
 unfold XF dr
 rw[h1]
 dsimp only
 rw[if_pos hu,h2]
 exact hr
theorem Qy1{b:List UInt8}{w:Wld}{c d:Cu}{k:Int}(h1:QE b c 20=(k,d))(hu:w.up=false)(hk:4<k):XF b w c=(⟨4,noC,0⟩,d):=by
 unfold XF dr
 rw[h1]
 dsimp only
 rw[if_neg (by rw[hu];decide),if_pos hk]
theorem Qza{b:List UInt8}{w:Wld}{c d:Cu}{k:Int}{r:WA×Cu}(h1:QE b c 20=(k,d))(hu:w.up=false)(hk:¬4<k)(hr:QnZ b ⟨7,noJ,1,⟨0,0,0⟩⟩ k d=r):XF b w c=r:=by
 unfold XF dr
 rw[h1]
 dsimp only
 rw[if_neg (by rw[hu];decide),if_neg hk]
 exact hr
attribute [local irreducible] QE WB cmdF jobF Vr
theorem Qpg{b:List UInt8}{w:Wld}{i h:Int}(hL:b.length<=1048576)(hI:0<=i/\i<=b.length)(hw:Qut w):MCalls Tryz.prog 121 [.ptr 1000000 0,wldA w] [(1000000,curO b i h)] (fun(x:WA×Int×Int)=>match x with|(v,p,q)=>XF b w (i,h)=(v,p,q)/\0<=p/\p<=b.length) (fun x=>match x with|(v,_,_)=>[Qcm v]) (fun x=>match x with|(_,p,q)=>[(1000000,curO b p q)]) (fun _=>[]):=by
 refine Js tt func121 rfl rfl rfl ⟨rfl,trivial⟩ (fun _ _=>⟨⟨⟨rfl,rfl,rfl⟩,trivial⟩,rfl,trivial⟩) (fun w0 Z O=>?_)
 have a:=hw.now
 have c:=hw.small.ctl.state
 obtain⟨m,first,ctl,f,g⟩:=w
 dsimp only at a c
 cases m with
 | true=>
  repeat'(first|(refine zhm fun hb=>?_;try exact zab)|refine zUtp ?_|refine zg2 ?_ ?_|(refine km [1000000] (Jk hL (by omega)) rfl rfl (fun i hi=>?_) (hob:=rfl);obtain⟨l,e,d⟩:=i;(try dsimp only at hi))|(refine km [1000000] (Qd1 hL (by omega) c a) rfl rfl (fun i hi=>?_) (hob:=rfl);obtain⟨l,e,d⟩:=i;(try dsimp only at hi))|intro _)
  ·refine zp ?_
   refine' Yc ⟨⟨_,⟨_,⟨_,_,_,⟨_,_,_⟩,⟨_,_,_⟩,_,_⟩,_,⟨_,_,_⟩⟩,_⟩,_,_⟩ _ [] rfl ?_
   any_goals refine QcL.mk ?_ ?_ ?_ ?_ ?_
   any_goals (refine WD.mk ?_;(try dsimp only[Qcm]);exact rfl)
   repeat'(first|apply And.intro|exact zeb|refine zec ?_|exact zen|refine zeo ?_|exact zes|refine zet ?_|exact zel|refine zem ?_|exact zep|refine zeq1 ?_|refine zea ?_|refine zei ?_ ?_|refine zex ?_|(apply Q9;iterate 3 exact rfl)|exact rfl|exact trivial)
   all_goals first|exact zp rfl|(refine WD.mk ?_;exact⟨by(refine Qy7 (aL (by assumption)) rfl (aL (by assumption)) ?_;unfold QnZ;rw[if_pos (by omega)];rfl),by omega⟩)
  ·refine zp ?_
   refine' Yc ⟨⟨_,⟨_,⟨_,_,_,⟨_,_,_⟩,⟨_,_,_⟩,_,_⟩,_,⟨_,_,_⟩⟩,_⟩,_,_⟩ _ [] rfl ?_
   any_goals refine QcL.mk ?_ ?_ ?_ ?_ ?_
   any_goals (refine WD.mk ?_;(try dsimp only[Qcm]);exact rfl)
   repeat'(first|apply And.intro|exact zeb|refine zec ?_|exact zen|refine zeo ?_|exact zes|refine zet ?_|exact zel|refine zem ?_|exact zep|refine zeq1 ?_|refine zea ?_|refine zei ?_ ?_|refine zex ?_|(apply Q9;iterate 3 exact rfl)|exact rfl|exact trivial)
   all_goals first|exact zp rfl|(refine WD.mk ?_;exact⟨by(refine Qy7 (aL (by assumption)) rfl (aL (by assumption)) ?_;unfold QnZ;rw[if_neg (by omega),if_pos (by omega)];rfl),by omega⟩)
  ·obtain⟨⟨v3,p3,q3⟩,h3⟩:∃r,QE b (e,d) 40=r:=⟨_,rfl⟩
   obtain⟨k,j⟩:=Yv (by decide) (by omega) h3
   repeat'(first|(apply Y9;iterate 10 exact rfl)|(refine zhm fun hb=>?_;try exact zab)|refine Qd ?_|(apply zchP 1000000;exact zcg)|(apply zch;exact zcg)|exact zhk|refine zg3 ?_ ?_|(refine km [1000000] (XU hL (by omega) (by omega) h3) rfl rfl (fun i hi=>?_);try dsimp only at hi)|intro _)
   refine zp ?_
   refine' Yc ⟨⟨_,⟨_,⟨_,_,_,⟨_,_,_⟩,⟨_,_,_⟩,_,_⟩,_,⟨_,_,_⟩⟩,_⟩,_,_⟩ _ [] rfl ?_
   any_goals refine QcL.mk ?_ ?_ ?_ ?_ ?_
   any_goals (refine WD.mk ?_;(try dsimp only[Qcm]);exact rfl)
   repeat'(first|apply And.intro|exact zeb|refine zec ?_|exact zen|refine zeo ?_|exact zes|refine zet ?_|exact zel|refine zem ?_|exact zep|refine zeq1 ?_|refine zea ?_|refine zei ?_ ?_|refine zex ?_|(apply Q9;iterate 3 exact rfl)|exact rfl|exact trivial)
   all_goals first|exact zp rfl|(refine WD.mk ?_;exact⟨by(refine Qy7 (aL (by assumption)) rfl (aL (by assumption)) ?_;unfold QnZ;rw[if_neg (by omega),if_neg (by omega),if_pos (by omega)];refine QzG h3 ?_;rfl),by omega⟩)
  ·refine zp ?_
   refine' Yc ⟨⟨_,⟨_,⟨_,_,_,⟨_,_,_⟩,⟨_,_,_⟩,_,_⟩,_,⟨_,_,_⟩⟩,_⟩,_,_⟩ _ [] rfl ?_
   any_goals refine QcL.mk ?_ ?_ ?_ ?_ ?_
   any_goals (refine WD.mk ?_;(try dsimp only[Qcm]);exact rfl)
   repeat'(first|apply And.intro|exact zeb|refine zec ?_|exact zen|refine zeo ?_|exact zes|refine zet ?_|exact zel|refine zem ?_|exact zep|refine zeq1 ?_|refine zea ?_|refine zei ?_ ?_|refine zex ?_|(apply Q9;iterate 3 exact rfl)|exact rfl|exact trivial)
   all_goals first|exact zp rfl|(refine WD.mk ?_;exact⟨by(refine Qy7 (aL (by assumption)) rfl (aL (by assumption)) ?_;unfold QnZ;rw[if_neg (by omega),if_neg (by omega),if_neg (by omega)] <;> rfl),by omega⟩)
 | false=>
  repeat'(first|(refine zhm fun hb=>?_;try exact zab)|refine zUtp ?_|refine zg2 ?_ ?_|(refine km [1000000] (Jk hL (by omega)) rfl rfl (fun i hi=>?_) (hob:=rfl);obtain⟨l,e,d⟩:=i;(try dsimp only at hi))|intro _)
  ·refine zp ?_
   refine' Yc ⟨⟨_,⟨_,⟨_,_,_,⟨_,_,_⟩,⟨_,_,_⟩,_,_⟩,_,⟨_,_,_⟩⟩,_⟩,_,_⟩ _ [] rfl ?_
   any_goals refine QcL.mk ?_ ?_ ?_ ?_ ?_
   any_goals (refine WD.mk ?_;(try dsimp only[Qcm]);exact rfl)
   repeat'(first|apply And.intro|exact zeb|refine zec ?_|exact zen|refine zeo ?_|exact zes|refine zet ?_|exact zel|refine zem ?_|exact zep|refine zeq1 ?_|refine zea ?_|refine zei ?_ ?_|refine zex ?_|(apply Q9;iterate 3 exact rfl)|exact rfl|exact trivial)
   all_goals first|exact zp rfl|(refine WD.mk ?_;exact⟨Qy1 hi.1 rfl hb,by omega⟩)
  ·refine zp ?_
   refine' Yc ⟨⟨_,⟨_,⟨_,_,_,⟨_,_,_⟩,⟨_,_,_⟩,_,_⟩,_,⟨_,_,_⟩⟩,_⟩,_,_⟩ _ [] rfl ?_
   any_goals refine QcL.mk ?_ ?_ ?_ ?_ ?_
   any_goals (refine WD.mk ?_;(try dsimp only[Qcm]);exact rfl)
   repeat'(first|apply And.intro|exact zeb|refine zec ?_|exact zen|refine zeo ?_|exact zes|refine zet ?_|exact zel|refine zem ?_|exact zep|refine zeq1 ?_|refine zea ?_|refine zei ?_ ?_|refine zex ?_|(apply Q9;iterate 3 exact rfl)|exact rfl|exact trivial)
   all_goals first|exact zp rfl|(refine WD.mk ?_;exact⟨by(refine Qza (aL (by assumption)) rfl (by omega) ?_;unfold QnZ;rw[if_pos (by omega)];rfl),by omega⟩)
  ·refine zp ?_
   refine' Yc ⟨⟨_,⟨_,⟨_,_,_,⟨_,_,_⟩,⟨_,_,_⟩,_,_⟩,_,⟨_,_,_⟩⟩,_⟩,_,_⟩ _ [] rfl ?_
   any_goals refine QcL.mk ?_ ?_ ?_ ?_ ?_
   any_goals (refine WD.mk ?_;(try dsimp only[Qcm]);exact rfl)
   repeat'(first|apply And.intro|exact zeb|refine zec ?_|exact zen|refine zeo ?_|exact zes|refine zet ?_|exact zel|refine zem ?_|exact zep|refine zeq1 ?_|refine zea ?_|refine zei ?_ ?_|refine zex ?_|(apply Q9;iterate 3 exact rfl)|exact rfl|exact trivial)
   all_goals first|exact zp rfl|(refine WD.mk ?_;exact⟨by(refine Qza (aL (by assumption)) rfl (by omega) ?_;unfold QnZ;rw[if_neg (by omega),if_pos (by omega)];rfl),by omega⟩)
  ·obtain⟨⟨v3,p3,q3⟩,h3⟩:∃r,QE b (e,d) 40=r:=⟨_,rfl⟩
   obtain⟨k,j⟩:=Yv (by decide) (by omega) h3
   repeat'(first|(apply Y9;iterate 10 exact rfl)|(refine zhm fun hb=>?_;try exact zab)|refine Qd ?_|(apply zchP 1000000;exact zcg)|(apply zch;exact zcg)|exact zhk|refine zg3 ?_ ?_|(refine km [1000000] (XU hL (by omega) (by omega) h3) rfl rfl (fun i hi=>?_);try dsimp only at hi)|intro _)
   refine zp ?_
   refine' Yc ⟨⟨_,⟨_,⟨_,_,_,⟨_,_,_⟩,⟨_,_,_⟩,_,_⟩,_,⟨_,_,_⟩⟩,_⟩,_,_⟩ _ [] rfl ?_
   any_goals refine QcL.mk ?_ ?_ ?_ ?_ ?_
   any_goals (refine WD.mk ?_;(try dsimp only[Qcm]);exact rfl)
   repeat'(first|apply And.intro|exact zeb|refine zec ?_|exact zen|refine zeo ?_|exact zes|refine zet ?_|exact zel|refine zem ?_|exact zep|refine zeq1 ?_|refine zea ?_|refine zei ?_ ?_|refine zex ?_|(apply Q9;iterate 3 exact rfl)|exact rfl|exact trivial)
   all_goals first|exact zp rfl|(refine WD.mk ?_;exact⟨by(refine Qza (aL (by assumption)) rfl (by omega) ?_;unfold QnZ;rw[if_neg (by omega),if_neg (by omega),if_pos (by omega)];refine QzG h3 ?_;rfl),by omega⟩)
  ·refine zp ?_
   refine' Yc ⟨⟨_,⟨_,⟨_,_,_,⟨_,_,_⟩,⟨_,_,_⟩,_,_⟩,_,⟨_,_,_⟩⟩,_⟩,_,_⟩ _ [] rfl ?_
   any_goals refine QcL.mk ?_ ?_ ?_ ?_ ?_
   any_goals (refine WD.mk ?_;(try dsimp only[Qcm]);exact rfl)
   repeat'(first|apply And.intro|exact zeb|refine zec ?_|exact zen|refine zeo ?_|exact zes|refine zet ?_|exact zel|refine zem ?_|exact zep|refine zeq1 ?_|refine zea ?_|refine zei ?_ ?_|refine zex ?_|(apply Q9;iterate 3 exact rfl)|exact rfl|exact trivial)
   all_goals first|exact zp rfl|(refine WD.mk ?_;exact⟨by(refine Qza (aL (by assumption)) rfl (by omega) ?_;unfold QnZ;rw[if_neg (by omega),if_neg (by omega),if_neg (by omega)] <;> rfl),by omega⟩)
end
section
theorem Quv{ι:Type}{P:Program}{f:FuncId}{args:List AV}{ok:ι->Prop}{rs:ι->List AV}(h:MCalls P f args [] ok rs (fun _=>[]) (fun _=>[]))(x0:ι)(hu:∀x,ok x->rs x=rs x0):DC P f args (rs x0):=by
 refine⟨⟨h.1.1,fun _ _=>⟨trivial,trivial⟩⟩,fun w Zp eh us hm hk hs=>?_⟩
 obtain⟨a,b⟩:=h.2 w Zp eh us hm hk hs
 exact⟨a,b.mono fun e w' ⟨i,v,en,⟨hi,x⟩,r⟩=>⟨(),v,en,⟨trivial,x⟩,by rw[<-hu i hi];exact r⟩⟩
attribute [local irreducible] AWp QI OpOk ACalls ChA QsOk MCalls NCalls EnC PY
theorem Qnl(l:List WA)(x:WA):V0 l++[Qy6 x]=V0 (l++[x]):=by
 rw[V0,V0,XaG]
 rfl
theorem Qoc{b:List UInt8}{w:Wld}{i h m:Int}(hL:b.length<=1048576)(hI:0<=i/\i<=b.length)(hw:Qut w)(hcs:w.codes.length<=1000)(hm:0<=m/\m<=1000):MCalls Tryz.prog 51 [.ptr 1000000 0,wldA w,zI m] [(1000000,curO b i h)] (fun(x:List WA×Int×Int)=>match x with|(l,p,q)=>(allF b w m (i,h)=(l,p,q)/\(l.length:Int)<=1+m)/\0<=p/\p<=b.length) (fun x=>match x with|(l,_,_)=>[zL (V0 l)]) (fun x=>match x with|(_,p,q)=>[(1000000,curO b p q)]) (fun _=>[]):=by
 refine Js tt func51 rfl rfl rfl ⟨rfl,trivial⟩ (fun _ _=>⟨⟨⟨rfl,rfl,rfl⟩,trivial⟩,rfl,trivial⟩) (fun w0 Z O=>?_)
 have c:=do_s (x:=goS) (w:=w) ⟨hw.small,by omega⟩
 dsimp only[goS,noC,noJ]at c
 repeat'(first|(apply QP 2;kernel_rfl;exact rfl)|(refine zhm fun hb=>?_;try exact zab)|refine Qd ?_|(apply zch;exact zcg)|exact zhk|refine zg3 ?_ ?_|(refine km [1000000] (Jk hL (by omega)) rfl rfl (fun i hi=>?_) (hob:=rfl);obtain⟨t,s,r⟩:=i;(try dsimp only at hi))|refine kmu c ?_|intro _)
 obtain⟨n0,rfl⟩:∃z,z=t:=⟨t,rfl⟩
 have e:=hi
 obtain⟨⟨l',p',q'⟩,hR⟩:∃R,X1 b n0.toNat (doO w goS) [goS] (s,r)=R:=⟨_,rfl⟩
 have u:=Qd6 w goS
 refine Qa (fun(x:Nat×Wld×List WA×Int×Int)=>match x with|(n,v,l,p,q)=>⟨36,[(0,.ptr 1000000 0),(4,.ptr 4 0),(7,.row 11),(8,zI n)],[(4,.box 54 (wldC v)),(11,.row 119 (V0 l) true),(1000000,curO b p q)]⟩) (fun x=>match x with|(n,v,l,p,q)=>(Qut v/\v.codes.length+n<=3000/\(l.length:Int)+n<=1+m/\0<=p/\p<=b.length)/\X1 b n v l (p,q)=(l',p',q')) (fun x=>x.1) (n0.toNat,doO w goS,[goS],s,r) (by exact⟨⟨hw.next _,by omega,by rw[Xap];omega,by omega⟩,hR⟩) ?_ ?_
 ·exact zll
 ·rintro ⟨n,v,l,p,q⟩ ⟨⟨g,j,hl,f⟩,a⟩
  try dsimp only at j hl f a
  have ab:=W7 l
  cases n with
  | zero=>
   rw[X1]at a
   obtain⟨rfl,d⟩:=Prod.mk.inj a
   obtain⟨rfl,rfl⟩:=Prod.mk.inj d
   repeat'(first|(refine zhm fun hb=>?_;try exact zab)|(refine Qh 9 11 rfl ?_)|refine QR ?_|(apply zch;exact zcg)|exact zhk|refine zg3 ?_ ?_|intro _)
   show AWp _ _ _ _
   refine QA ?_
   apply Qu
   refine zp ?_
   refine' Yc ⟨l,_,_⟩ _ [] rfl ?_
   any_goals refine QcL.mk ?_ ?_ ?_ ?_ ?_
   any_goals (refine WD.mk ?_;(try dsimp only[V0]);exact rfl)
   repeat'(first|apply And.intro|exact zeb|refine zec ?_|exact zen|refine zeo ?_|exact zes|refine zet ?_|exact zel|refine zem ?_|exact zep|refine zeq1 ?_|refine zea ?_|refine zei ?_ ?_|refine zex ?_|(apply Q9;iterate 3 exact rfl)|exact rfl|exact trivial)
   all_goals first|exact zp rfl|(refine WD.mk ?_;exact⟨⟨by unfold allF;refine QzG e.1 ?_;exact hR,by omega⟩,by omega⟩)
  | succ n=>
   obtain⟨⟨x,p2,q2⟩,hx⟩:∃R,XF b v (p,q)=R:=⟨_,rfl⟩
   rw[Qr8 hx]at a
   have k:Wz v:=⟨g.small,by omega⟩
   have y:=Qd6 v x
   repeat'(first|(refine zhm fun hb=>?_;try exact zab)|refine Qd ?_|(apply zch;exact zcg)|exact zhk|refine zg3 ?_ ?_|(refine km [1000000] (Qpg hL (by omega) g) rfl rfl (fun i hi=>?_) (hob:=rfl);obtain⟨t,s,r⟩:=i;(try dsimp only at hi))|intro _)
   obtain⟨rfl,o⟩:=Prod.mk.inj (hx.symm.trans hi.1)
   obtain⟨rfl,rfl⟩:=Prod.mk.inj o
   have c:=do_s (x:=x) k
   repeat'(first|(refine zhm fun hb=>?_;try exact zab)|refine Qd ?_|(apply zch;exact zcg)|exact zhk|refine zg3 ?_ ?_|refine kmu c ?_|intro _)
   refine⟨(n,doO v x,l++[x],p2,q2),⟨⟨g.next _,by omega,by rw[Xaa,Xap];omega,by omega⟩,a⟩,by dsimp only;omega,?_⟩
   refine⟨rfl,?_,?_,rfl⟩
   repeat'(first|exact ze3|refine ze2 ?_ ?_|refine ze4 ?_|exact ze5|fail)
   all_goals exact zp (by first|rfl|omega|exact Qnl _ _)
theorem Qt2(b:List UInt8)(s:Qb){c:Cu}(h:OkC b c):OkC b (Vr b s c).2:=Qgw s (i:=c.1) (h:=c.2) (x:=(Vr b s c).1) (p:=(Vr b s c).2.1) (q:=(Vr b s c).2.2) h rfl
theorem QmB(b:List UInt8)(x:Cmd)(k:Int){c:Cu}(h:OkC b c):OkC b (QnZ b x k c).2:=by
 unfold QnZ
 split
 ·exact h
 ·split
  ·exact h
  ·split
   ·exact QkH h fun _ _ h'=>h'
   ·exact h
theorem Quj(b:List UInt8)(w:Wld){c:Cu}(h:OkC b c):OkC b (XF b w c).2:=by
 unfold XF
 refine QkH h fun k c' h'=>?_
 split
 ·exact QmB b _ k (Qt2 b _ h')
 ·split
  ·exact h'
  ·exact QmB b _ k h'
theorem Qe0(b:List UInt8):∀(n:Nat) (w:Wld) (l:List WA) (c:Cu),OkC b c->OkC b (X1 b n w l c).2/\(X1 b n w l c).1.length=l.length+n
 | 0,_,l,c,h=>⟨h,rfl⟩
 | n+1,w,l,c,h=>by
  rw[X1]
  have:=Qe0 b n (doO w (XF b w c).1) (l++[(XF b w c).1]) (XF b w c).2 (Quj b w h)
  rw[Xaa,Xap]at this
  exact⟨this.1,by omega⟩
theorem Qwz{b:List UInt8}{w:Wld}{m:Int}{i h p q:Int}{l:List WA}(hI:0<=i/\i<=b.length)(e:allF b w m (i,h)=(l,p,q)):0<=p/\p<=b.length:=by
 have a:OkC b (allF b w m (i,h)).2:=by
  unfold allF
  exact QkH hI fun _ _ h'=>(Qe0 b _ _ _ _ h').1
 rw[e]at a
 exact a
theorem Qr6{b:List UInt8}{w:Wld}{i h p q:Int}{l:List WA}(hI:0<=i/\i<=b.length)(e:allF b w 16 (i,h)=(l,p,q)):l.length<=17:=by
 unfold allF dr at e
 dsimp only at e
 have h1:=Ym b (i,h) (n:=(((16:Int).toNat+1:Nat):Int)) (by decide)
 have a:=(Qe0 b (QE b (i,h) (((16:Int).toNat+1:Nat):Int)).1.toNat (doO w goS) [goS] _ (Qa1 b (c:=(i,h)) (((16:Int).toNat+1:Nat):Int) hI)).2
 rw[e]at a
 rw[Xap]at a
 dsimp only at a
 omega
theorem X9{b:List UInt8}(hL:b.length<=1048576):MCalls Tryz.prog 13 [zL (QK b)] [] (fun(x:Qb×List WA)=>QxC b=(wld1 x.1,x.2)/\Qj 1048576 x.1/\x.2.length<=17) (fun x=>[wldA (wld1 x.1),zL (V0 x.2)]) (fun _=>[]) (fun _=>[]):=by
 refine zMC func13 fun w0 Z O=>?_
 repeat'(first|(refine zhm fun hb=>?_;try exact zab)|refine zUtp ?_|refine zg2 ?_ ?_|(refine km [] (QmC hL) rfl rfl (fun i hi=>?_);try dsimp only at hi)|(refine km [7] (Qt9 hL (by omega)) rfl rfl (fun i hi=>?_) (hob:=rfl);obtain⟨h,k,j⟩:=i;(try dsimp only at hi))|intro _)
 rename_i c
 obtain⟨s1,rfl⟩:∃z,z=h:=⟨h,rfl⟩
 have a:=hi
 obtain⟨d,e⟩:=QoC a.1.2
 obtain⟨⟨l1,p2,q2⟩,hl1⟩:∃r,allF b (wld1 s1) 16 (k,j)=r:=⟨_,rfl⟩
 have g:=Qr6 (by omega) hl1
 have f:=QqL (l1,p2,q2) (Qoc (m:=16) hL a.2 d (by rw[e];decide) (by omega)) ⟨⟨hl1,by omega⟩,Qwz a.2 hl1⟩ (fun _ hx=>hx.1.1.symm.trans hl1)
 dsimp only at f
 repeat'(first|(apply QP 3;kernel_rfl;exact rfl)|(apply Y9;iterate 10 exact rfl)|(refine zhm fun hb=>?_;try exact zab)|refine Qd ?_|(apply zchP 7;exact zcg)|(apply zch;exact zcg)|exact zhk|refine zg3 ?_ ?_|(refine km [7] (f) rfl rfl (fun i hi=>?_);try dsimp only at hi)|intro _)
 refine zp ?_
 refine' Yc ⟨s1,l1⟩ _ [] rfl ?_
 any_goals refine QcL.mk ?_ ?_ ?_ ?_ ?_
 any_goals (refine WD.mk ?_;(try dsimp only[wldA,wldC,Q3,ctlC,jnC]);exact rfl)
 repeat'(first|apply And.intro|exact zeb|refine zec ?_|exact zen|refine zeo ?_|exact zes|refine zet ?_|exact zel|refine zem ?_|exact zep|refine zeq1 ?_|refine zea ?_|refine zei ?_ ?_|refine zex ?_|(apply Q9;iterate 3 exact rfl)|exact rfl|exact trivial)
 all_goals first|exact zp rfl|(refine WD.mk ?_;exact⟨by unfold QxC;rw[c,a.1.1,hl1],a.1.2,by omega⟩)
theorem Ql5{w:Wld}{l:List WA}(hs:Wz w)(hll:l.length<=1048576)(hc:w.codes.length+l.length<=100000000):DC Tryz.prog 14 [wldA w,zL (V0 l)] [wldA (JL w l)]:=by
 by_cases d:l=[]
 ·subst d
  exact WE (dc_a (Qwa hs))
 ·cases f:QG w with
  | false=>
   rw[QoW f d]
   exact WE (dc_a (QwM hs f d hll))
  | true=>
   have h0:=Xbb.2 d
   have a:=QwD hs f d hll hc
   have j:=Qdz (l:=l) f (l.length-1) (by omega)
   have e:=Zu (w:=w) (l:=l) (i:=l.length-1) (by omega)
   rw[(Qlj j).1,show l.length-1+1=l.length by omega,Xak]at e
   rw[e]at a ⊢
   have g:=Qrh (w:=JL w (l.take (l.length-1))) (x:=nth l (l.length-1))
   have h:=Qqh (w:=JL w (l.take (l.length-1))) (x:=nth l (l.length-1))
   have k:=QdE (JL w (l.take (l.length-1))) (nth l (l.length-1))
   generalize Wo (JL w (l.take (l.length-1))) (nth l (l.length-1))=n at a g h k
   generalize J0 (JL w (l.take (l.length-1))) (nth l (l.length-1))=r at a g h ⊢
   rcases k with rfl|rfl|rfl
   ·exact WE (dc_a a)
   ·obtain⟨o,s,c,b,m⟩:=r
    obtain rfl:c=zC:=g rfl
    exact WE (dc_a a)
   ·obtain⟨o,s,c,b,m⟩:=r
    obtain rfl:b=[]:=h rfl
    exact WE (dc_a a)
end
end Go.Proofs.YtkdniahincpmaaaGreat
