/-
  The rules with short names, their side conditions as default tactics (gensh.py writes this text).
-/
import Derived.Test.YtihgfennoalocaaGreatKB6
set_option maxRecDepth 100000
set_option maxHeartbeats 16000000
namespace Go.Proofs.YtihgfennoalocaaGreat
open Go Go.RowKit
section

theorem QgQ(b:List UInt8)(j i:Nat):((QG b).take j).drop i=QG ((b.take j).drop i):=by simp[QG,List.map_take,List.map_drop]
theorem YE{X:Cx}{o:Oper}{σ:AS}{K:AS->Prop}(h:OpOk X o σ K):OpOk X o σ K:=h
def isQ:Op->Bool
 | .binOp ..=>true
 | .convert ..=>true
 | .index ..=>true
 | .indexAddr ..=>true
 | .load ..=>true
 | .slice ..=>true
 | .build ..=>true
 | .field ..=>true
 | .call { callee:=.builtin _,.. }=>true
 | _=>false
def opx:Op->Nat
 | .binOp ..=>0
 | .convert ..=>1
 | .index ..=>2
 | .indexAddr ..=>3
 | .load ..=>4
 | .slice ..=>5
 | .build ..=>6
 | .field ..=>7
 | .call { callee:=.builtin _,.. }=>8
 | .buildSlice ..=>9
 | .makeSlice ..=>10
 | .store ..=>11
 | _=>99
structure Qmj (p:Prop):Prop where
 go:p
structure HopK (p:Prop):Prop where
 go:p
theorem Qsg(p:Prop):HopK p=p:=propext ⟨fun x=>x.go,fun x=>⟨x⟩⟩
structure Sd (p:Prop):Prop where
 go:p
structure Hb (p G:Prop):Prop where
 go:p->G
section
variable {X:Cx} {σ:AS} {Q:Exit->AS->Prop}
theorem QtW{c:Operand}{x y:Code}{t:Bool}(hc:σ.ev c=.d (.b t))(h1:Hb (t=true) (AWp X x Q σ))(h2:Hb (t=false) (AWp X y Q σ)):AWp X (.cond c x y) Q σ:=Qf7 hc h1.go h2.go
theorem Qvo{ops:Array Oper}{o:Oper}{l:List Oper}{j d:Nat}{t t':Bool}(hg:o.guard=some (j,t))(hd:(ops[j]?).bind (·.dst)=some d)(hv:look σ.sl d=.d (.b t'))
  (h1:Hb (t'=true) (QJ X ops (o::l) Q (σ.put d (.d (.b true))))) (h2:Hb (t'=false) (QJ X ops (o::l) Q (σ.put d (.d (.b false))))):QJ X ops (o::l) Q σ:=Ql9 hg hd hv h1.go h2.go
theorem qs_x{ops:Array Oper}{N:AS->Prop}{o:Oper}{l:List Oper}{j d:Nat}{t t':Bool}(hg:o.guard=some (j,t))(hd:(ops[j]?).bind (·.dst)=some d)(hv:look σ.sl d=.d (.b t'))
  (h1:Hb (t'=true) (QsOk X ops (o::l) N (σ.put d (.d (.b true))))) (h2:Hb (t'=false) (QsOk X ops (o::l) N (σ.put d (.d (.b false))))):QsOk X ops (o::l) N σ:=Qnd hg hd hv h1.go h2.go
theorem ch_x{nt:Nat}{ops:Array Oper}{N:AS->Prop}{o:Oper}{l:List Oper}{acc:List (Nat×List Nat×Lo)}{i j d:Nat}{t t':Bool}(_hg:o.guard=some (j,t))(_hd:(ops[j]?).bind (·.dst)=some d)(hv:look σ.sl d=.d (.b t'))
  (h1:Hb (t'=true) (ChA X nt ops N (o::l) acc i (σ.put d (.d (.b true))))) (h2:Hb (t'=false) (ChA X nt ops N (o::l) acc i (σ.put d (.d (.b false))))):ChA X nt ops N (o::l) acc i σ:=QpC hv h1.go h2.go
theorem zgr{id:Nat}{l:List Oper}{σ':AS}(h:QJ X l.toArray l Q σ')(hn:Xz σ=some σ':=by exact rfl):AWp X (.region id l.toArray false) Q σ:=Qiv hn h
theorem zga{ops:Array Oper}{o:Oper}{l:List Oper}{σ':AS}(hK:QJ X ops l Q σ')(h:aopG X ops o σ=some σ':=by exact rfl):QJ X ops (o::l) Q σ:=QsZ h hK
theorem zgt{c:Operand}{x y:Code}(h1:AWp X x Q σ)(hc:σ.ev c=.d (.b true):=by exact rfl):AWp X (.cond c x y) Q σ:=Qlf hc h1
theorem zgf{c:Operand}{x y:Code}(h1:AWp X y Q σ)(hc:σ.ev c=.d (.b false):=by exact rfl):AWp X (.cond c x y) Q σ:=Qln hc h1
theorem zgo{ops:Array Oper}{o:Oper}{l:List Oper}(h:OpOk X o σ (QJ X ops l Q))(hg:o.guard=none:=by exact rfl):QJ X ops (o::l) Q σ:=Qfz hg h
theorem zgy{ops:Array Oper}{o:Oper}{l:List Oper}{j d:Nat}{t:Bool}(h:OpOk X o σ (QJ X ops l Q))(hg:o.guard=some (j,t):=by exact rfl)(hd:(ops[j]?).bind (·.dst)=some d:=by exact rfl)(hv:look σ.sl d=.d (.b t):=by exact rfl):QJ X ops (o::l) Q σ:=Qix hg hd hv h
theorem zsl{G:Prop}(h:G:=by repeat'(first|apply And.intro|exact Or.inl rfl|exact Or.inr ⟨rfl,rfl⟩|exact trivial)):G:=h
theorem zft{G:Prop}(h:G:=by repeat'(first|apply And.intro|exact trivial)):G:=h
theorem zst{G R:Prop}(k:R)(h:R->G:=by intro r;first|exact Qgm r|exact zgr r|exact zga r|exact Qi9 r|exact zgt r|exact zgf r|exact QdH r|exact Qgx r|exact Qgd r|exact Qt r|exact zgo r|exact zgy r):G:=h k
theorem zsr{G R:Prop}(k:R)(h:R->G:=by intro r;first|exact Qgm r|exact zgr r|exact zga r|exact Qi9 r|exact zgt r|exact zgf r|exact QdH r|exact Qgx r|exact Qgd r|exact zgo r|exact zgy r):G:=h k
theorem zsc{G R:Prop}(k:R)(h:R->G:=by intro r;first|exact Qgm r|exact zgr r|exact zga r|exact Qi9 r|exact QdH r|exact Qgx r|exact Qgd r|exact Qt r|exact zgo r|exact zgy r):G:=h k
theorem zgq{o:Oper}{K:AS->Prop}(h:QOk X o σ K)(_h0:isQ o.op=true:=by exact rfl):OpOk X o σ K:=h.ok
theorem zgc{c:Operand}{x y:Code}{t:Bool}(h1:Hb (t=true) (AWp X x Q σ))(h2:Hb (t=false) (AWp X y Q σ))(hc:σ.ev c=.d (.b t):=by exact rfl):AWp X (.cond c x y) Q σ:=QtW hc h1 h2
theorem zgx{ops:Array Oper}{o:Oper}{l:List Oper}{j d:Nat}{t t':Bool}(h1:Hb (t'=true) (QJ X ops (o::l) Q (σ.put d (.d (.b true)))))(h2:Hb (t'=false) (QJ X ops (o::l) Q (σ.put d (.d (.b false)))))(hg:o.guard=some (j,t):=by exact rfl)(hd:(ops[j]?).bind (·.dst)=some d:=by exact rfl)(hv:look σ.sl d=.d (.b t'):=by(fail_if_success exact(rfl:_=AV.d (.b true)));(fail_if_success exact(rfl:_=AV.d (.b false)));exact rfl):QJ X ops (o::l) Q σ:=Qvo hg hd hv h1 h2
theorem zqx{ops:Array Oper}{N:AS->Prop}{o:Oper}{l:List Oper}{j d:Nat}{t t':Bool}(h1:Hb (t'=true) (QsOk X ops (o::l) N (σ.put d (.d (.b true)))))(h2:Hb (t'=false) (QsOk X ops (o::l) N (σ.put d (.d (.b false)))))(hg:o.guard=some (j,t):=by exact rfl)(hd:(ops[j]?).bind (·.dst)=some d:=by exact rfl)(hv:look σ.sl d=.d (.b t'):=by(fail_if_success exact(rfl:_=AV.d (.b true)));(fail_if_success exact(rfl:_=AV.d (.b false)));exact rfl):QsOk X ops (o::l) N σ:=qs_x hg hd hv h1 h2
theorem zcx{nt:Nat}{ops:Array Oper}{N:AS->Prop}{o:Oper}{l:List Oper}{acc:List (Nat×List Nat×Lo)}{i j d:Nat}{t t':Bool}(h1:Hb (t'=true) (ChA X nt ops N (o::l) acc i (σ.put d (.d (.b true)))))(h2:Hb (t'=false) (ChA X nt ops N (o::l) acc i (σ.put d (.d (.b false)))))(hg:o.guard=some (j,t):=by exact rfl)(hd:(ops[j]?).bind (·.dst)=some d:=by exact rfl)(hv:look σ.sl d=.d (.b t'):=by(fail_if_success exact(rfl:_=AV.d (.b true)));(fail_if_success exact(rfl:_=AV.d (.b false)));exact rfl):ChA X nt ops N (o::l) acc i σ:=ch_x hg hd hv h1 h2
theorem zcg{G:Prop}(h:G:=by refine⟨rfl,?_,rfl,rfl⟩;first|exact Or.inl ⟨rfl,rfl⟩|exact Or.inr ⟨_,_,_,rfl,rfl,rfl,rfl⟩):G:=h
theorem zchG{nt:Nat}{ops:Array Oper}{N:AS->Prop}{o:Oper}{l:List Oper}{acc:List (Nat×List Nat×Lo)}{i:Nat}{gs rs:List (Nat×AV)}{ro ob' wo:List (Nat×AO)}{ch kl fr:List Nat}{v:AV}
  (h1:σ.nt=nt/\((o.guard=none/\gs=[])\/∃j d t,o.guard=some (j,t)/\(ops[j]?).bind (·.dst)=some d/\look σ.sl d=.d (.b t)/\gs=[(d,.d (.b t))])/\ZS σ o=some (rs,ro))
  (hop:Qmj (∀(w0:World) (Z:ZV (freS kl ro)) (O:Nat->Prop),OpOk ⟨X.P,w0,freS kl ro,Z,O,X.tt⟩ o ⟨σ.nt,rs,ro⟩ (fun σ'=>HopK (σ'.nt=σ.nt/\XF (dstV o σ') some=some v/\obsK σ'.ob some=some ob'))))
  {pr:List Nat} {σ':AS}
  (h2:Sd (wofr ro ch ob' [] []=some (wo,fr)/\(AS.closed ⟨σ.nt,rs,ro⟩&&QfX wo ob' (ro.filter fun y=>Yi kl y.1)&&chkW ob' ro&&chkW ob' wo&&chkM ro fr ob'&&(fr.all X.fre&&kl.all X.fre)&&fr.all fun p=>!hasN p σ.ob)=true/\
   allP (fun y=>Qm wo y.1=some y.2\/(Qm wo y.1=none/\(Qm ro y.1).map (AO.cut (Yi kl))=some y.2)) ob'/\allP (fun y=>Qev y.2) ro/\Vv (YS o acc) some=some pr/\
   (acc.all fun y=>(pr.any fun k=>Nat.beq k y.1)||ind y.2.2 ⟨gs++rs,ro,fr,o.dst,v,wo,kl⟩)=true/\(o.after.toList.all fun e=>!Region.binds .any e||Nat.blt e.on i)=true/\Xz (Qeq σ ⟨gs++rs,ro,fr,o.dst,v,wo,kl⟩)=some σ'))
  (hK:ChA X nt ops N l ((i,pr,⟨gs++rs,ro,fr,o.dst,v,wo,kl⟩)::acc) (i+1) σ'):ChA X nt ops N (o::l) acc i σ:=by
 obtain⟨a1,a2,a3⟩:=h1
 obtain⟨b1,b2,b3,b4,b5,b6,b7,b8⟩:=h2.go
 have hop':=fun w0 Z O=>hop.go w0 Z O
 simp only[Qsg]at hop'
 rcases a2 with ⟨c1,c2⟩|⟨j,d,t,c1,c2,c3,c4⟩
 ·subst c2
  exact QsW a1 c1 a3 hop' b1 b2 b3 b4 b5 b6 b7 b8 hK
 ·subst c4
  exact QtZ a1 c1 c2 c3 a3 hop' b1 b2 b3 b4 b5 b6 b7 b8 hK
theorem zch{nt:Nat}{ops:Array Oper}{N:AS->Prop}{o:Oper}{l:List Oper}{acc:List (Nat×List Nat×Lo)}{i:Nat}{gs rs:List (Nat×AV)}{ro ob' wo:List (Nat×AO)}{ch kl fr:List Nat}{v:AV}
  (h1:σ.nt=nt/\((o.guard=none/\gs=[])\/∃j d t,o.guard=some (j,t)/\(ops[j]?).bind (·.dst)=some d/\look σ.sl d=.d (.b t)/\gs=[(d,.d (.b t))])/\ZS σ o=some (rs,ro)/\Qvm o rs=some (ch,kl))
  (hop:Qmj (∀(w0:World) (Z:ZV (freS kl ro)) (O:Nat->Prop),OpOk ⟨X.P,w0,freS kl ro,Z,O,X.tt⟩ o ⟨σ.nt,rs,ro⟩ (fun σ'=>HopK (σ'.nt=σ.nt/\XF (dstV o σ') some=some v/\obsK σ'.ob some=some ob'))))
  {pr:List Nat} {σ':AS}
  (h2:Sd (wofr ro ch ob' [] []=some (wo,fr)/\(AS.closed ⟨σ.nt,rs,ro⟩&&QfX wo ob' (ro.filter fun y=>Yi kl y.1)&&chkW ob' ro&&chkW ob' wo&&chkM ro fr ob'&&(fr.all X.fre&&kl.all X.fre)&&fr.all fun p=>!hasN p σ.ob)=true/\
   allP (fun y=>Qm wo y.1=some y.2\/(Qm wo y.1=none/\(Qm ro y.1).map (AO.cut (Yi kl))=some y.2)) ob'/\allP (fun y=>Qev y.2) ro/\Vv (YS o acc) some=some pr/\
   (acc.all fun y=>(pr.any fun k=>Nat.beq k y.1)||ind y.2.2 ⟨gs++rs,ro,fr,o.dst,v,wo,kl⟩)=true/\(o.after.toList.all fun e=>!Region.binds .any e||Nat.blt e.on i)=true/\Xz (Qeq σ ⟨gs++rs,ro,fr,o.dst,v,wo,kl⟩)=some σ'))
  (hK:ChA X nt ops N l ((i,pr,⟨gs++rs,ro,fr,o.dst,v,wo,kl⟩)::acc) (i+1) σ'):ChA X nt ops N (o::l) acc i σ:=zchG ⟨h1.1,h1.2.1,h1.2.2.1⟩ hop h2 hK
theorem zchE{nt:Nat}{ops:Array Oper}{N:AS->Prop}{o:Oper}{l:List Oper}{acc:List (Nat×List Nat×Lo)}{i:Nat}{gs rs:List (Nat×AV)}{ro ob' wo:List (Nat×AO)}{ch kl fr:List Nat}{v:AV}
  (h1:σ.nt=nt/\((o.guard=none/\gs=[])\/∃j d t,o.guard=some (j,t)/\(ops[j]?).bind (·.dst)=some d/\look σ.sl d=.d (.b t)/\gs=[(d,.d (.b t))])/\ZS σ o=some (rs,ro)/\tgtE o rs=some (ch,kl))
  (hop:Qmj (∀(w0:World) (Z:ZV (freS kl ro)) (O:Nat->Prop),OpOk ⟨X.P,w0,freS kl ro,Z,O,X.tt⟩ o ⟨σ.nt,rs,ro⟩ (fun σ'=>HopK (σ'.nt=σ.nt/\XF (dstV o σ') some=some v/\obsK σ'.ob some=some ob'))))
  {pr:List Nat} {σ':AS}
  (h2:Sd (wofr ro ch ob' [] []=some (wo,fr)/\(AS.closed ⟨σ.nt,rs,ro⟩&&QfX wo ob' (ro.filter fun y=>Yi kl y.1)&&chkW ob' ro&&chkW ob' wo&&chkM ro fr ob'&&(fr.all X.fre&&kl.all X.fre)&&fr.all fun p=>!hasN p σ.ob)=true/\
   allP (fun y=>Qm wo y.1=some y.2\/(Qm wo y.1=none/\(Qm ro y.1).map (AO.cut (Yi kl))=some y.2)) ob'/\allP (fun y=>Qev y.2) ro/\Vv (YS o acc) some=some pr/\
   (acc.all fun y=>(pr.any fun k=>Nat.beq k y.1)||ind y.2.2 ⟨gs++rs,ro,fr,o.dst,v,wo,kl⟩)=true/\(o.after.toList.all fun e=>!Region.binds .any e||Nat.blt e.on i)=true/\Xz (Qeq σ ⟨gs++rs,ro,fr,o.dst,v,wo,kl⟩)=some σ'))
  (hK:ChA X nt ops N l ((i,pr,⟨gs++rs,ro,fr,o.dst,v,wo,kl⟩)::acc) (i+1) σ'):ChA X nt ops N (o::l) acc i σ:=zchG ⟨h1.1,h1.2.1,h1.2.2.1⟩ hop h2 hK
theorem zhk{G:Prop}(h:G:=by first|exact HopK.mk ⟨rfl,rfl,rfl⟩|exact Sd.mk ⟨rfl,rfl,zsl,zft,rfl,rfl,rfl,rfl⟩):G:=h
theorem zdr{G R:Prop}(k:R)(h:R->G:=by intro r;first|(apply QmF;exact rfl;kernel_rfl;kernel_rfl;exact rfl;exact r)|(apply QnJ;exact rfl;kernel_rfl;exact rfl;exact r)|(apply QsO;exact rfl;exact r)|exact QuK r|(apply Qt0;exact rfl;exact r)|(apply Qve;(iterate 10 exact rfl);exact r)|(apply Qna;exact rfl;exact r)|(apply QnC;exact rfl;exact rfl;exact rfl;exact r)|(apply QjP;exact rfl;exact r)):G:=h k
theorem zg2{G R S:Prop}(a:R)(b:S)(h:R->S->G:=by intro r s;first|exact zgc r s|exact zgx r s):G:=h a b
theorem zg3{G R S:Prop}(a:R)(b:S)(h:R->S->G:=by intro r s;first|exact zcx r s|exact zgc r s|exact zgx r s|exact zqx r s):G:=h a b
theorem zab{G:Prop}(h:G:=by first|omega|exact absurd rfl hb):G:=h
theorem zr{fn:Func}{rs:List AV}{rob:List (Nat×AO)}(ρ:List Nat)(h3:Qa3 X σ fn.results.toList (renL ρ rs))(h4:Qpv σ ρ 0 rob)(h1:YI ρ=true:=by exact rfl)(h2:naL ρ.length rs=true:=by exact rfl):Qil (retQ X fn rs rob .ret σ):=⟨Qnk ρ h1 h2 h3 h4⟩
theorem zm{ι:Type}{fn:Func}{ok:ι->Prop}{rs:ι->List AV}{obs' rob:ι->List (Nat×AO)}(i:ι)(ρ:List Nat)(h0:ok i)(h2:Qa3 X σ fn.results.toList (Qb1 ρ (rs i)))(h3:XG σ ρ 0 (rob i))(h4:obLe σ (obs' i))
  (h1:(YI ρ&&naL2 ρ.length (fun k=>hasN k (obs' i)) (rs i)&&boxB (rob i)&&(ρ.all fre0)&&((rob i).all fun y=>fre0 y.1)&&Wy (obs' i)&&((obs' i).all fun y=>!fre0 y.1))=true:=by exact rfl):Qil (retM X fn ok rs obs' rob .ret σ):=⟨YC i ρ h0 h1 h2 h3 h4⟩
theorem zn{ι:Type}{fn:Func}{ok:ι->Prop}{rs:ι->List AV}{fin:ι->List (Nat×AO)}(i:ι)(ρ:List Nat)(h0:ok i)(h2:Qa3 X σ fn.results.toList (Qa5 (gamN ρ) (rs i)))(h3:Qlc σ ρ (fin i))(h1:finB ρ (rs i) (fin i)=true:=by exact rfl):Qil (retN X fn ok rs fin .ret σ):=⟨i,ρ,h0,h1,h2,h3⟩
theorem zd{fn:Func}{rs:Unit->List AV}{obs' rob:Unit->List (Nat×AO)}(ρ:List Nat)(h2:Qa3 X σ.dena fn.results.toList (Qb1 ρ (rs ())))(h3:XG σ.dena ρ 0 (rob ()))(h4:obLe σ.dena (obs' ()))
  (h1:(YI ρ&&naL2 ρ.length (fun k=>hasN k (obs' ())) (rs ())&&boxB (rob ())&&(ρ.all fre0)&&((rob ()).all fun y=>fre0 y.1)&&Wy (obs' ())&&((obs' ()).all fun y=>!fre0 y.1))=true:=by exact rfl):AWp X .ret (retM X fn (fun _:Unit=>True) rs obs' rob) σ:=QD (Qd5 (YC () ρ trivial h1 h2 h3 h4))
end
class HbT (p:Prop) (q:outParam Prop):Prop where
 to:p->q
instance (priority:=low) (p:Prop):HbT p p:=⟨id⟩
instance (p:Prop) [Decidable p]:HbT (decide p=true) p:=⟨of_decide_eq_true⟩
instance (p:Prop) [Decidable p]:HbT (decide p=false) (¬p):=⟨of_decide_eq_false⟩
instance {α:Type} [BEq α] [LawfulBEq α] (x y:α):HbT ((x==y)=true) (x=y):=⟨fun h=>beq_iff_eq.1 h⟩
instance {α:Type} [BEq α] [LawfulBEq α] (x y:α):HbT ((x==y)=false) (x≠y):=⟨fun h=>beq_eq_false_iff_ne.1 h⟩
instance {α:Type} [BEq α] [LawfulBEq α] (x y:α):HbT ((x != y)=true) (x≠y):=⟨fun h=>bne_iff_ne.1 h⟩
instance {α:Type} [BEq α] [LawfulBEq α] (x y:α):HbT ((x != y)=false) (x=y):=⟨fun h=>bne_eq_false_iff_eq.1 h⟩
instance (b:Bool):HbT ((!b)=true) (b=false):=⟨fun h=>by cases b with|false=>rfl|true=>cases h⟩
instance (b:Bool):HbT ((!b)=false) (b=true):=⟨fun h=>by cases b with|true=>rfl|false=>cases h⟩
theorem zhm{p q G:Prop}[i:HbT p q](h:q->G):Hb p G:=⟨fun x=>h (i.to x)⟩
theorem zeb{x:AV}{p q:Bool}(h:x=.d (.b p):=by exact rfl)(h2:p=q:=by with_reducible rfl):x=.d (.b q):=by rw[h,h2]
theorem zec{x:AV}{p q:Bool}(h2:Qil (p=q))(h:x=.d (.b p):=by exact rfl):x=.d (.b q):=eq_b h h2
theorem zen{x:AV}{k:IntKind}{p q:Int}(h:x=.d (.n k p):=by exact rfl)(h2:p=q:=by first|with_reducible rfl|omega):x=.d (.n k q):=by rw[h,h2]
theorem zeo{x:AV}{k:IntKind}{p q:Int}(h2:Qil (p=q))(h:x=.d (.n k p):=by exact rfl):x=.d (.n k q):=eq_n h h2
theorem zes{x:AV}{p q:List UInt8}(h:x=.d (.s p):=by exact rfl)(h2:p=q:=by with_reducible rfl):x=.d (.s q):=by rw[h,h2]
theorem zet{x:AV}{p q:List UInt8}(h2:Qil (p=q))(h:x=.d (.s p):=by exact rfl):x=.d (.s q):=eq_s h h2
theorem zel{x:AV}{p q:List (List D)}(h:x=.d (.sl p):=by exact rfl)(h2:p=q:=by with_reducible rfl):x=.d (.sl q):=by rw[h,h2]
theorem zem{x:AV}{p q:List (List D)}(h2:Qil (p=q))(h:x=.d (.sl p):=by exact rfl):x=.d (.sl q):=Qvs h h2
theorem zep{x:Option AO}{e:TypeId}{p q:List (List D)}{d:Bool}(h:x=some (.row e p d):=by exact rfl)(h2:p=q:=by with_reducible rfl):x=some (.row e q d):=by rw[h,h2]
theorem zeq1{x:Option AO}{e:TypeId}{p q:List (List D)}{d:Bool}(h2:Qil (p=q))(h:x=some (.row e p d):=by exact rfl):x=some (.row e q d):=Qu8 h h2
theorem zea{x:AV}{p q:List AV}(h2:p=q)(h:x=.agg p:=by exact rfl):x=.agg q:=Qt2 h h2
theorem zei{l:List AV}{x y:AV}{p q:List AV}(h1:x=y)(h2:p=q)(h:l=x::p:=by exact rfl):l=y::q:=Qsd h h1 h2
theorem zca{X:Cx}{σ:AS}{t:Nat}{T:TypeId}{v:AV}{xs:List AV}[ti:TI X.P T](ha:JQ ti.desc=true:=by exact rfl)(hx:(σ.at (look σ.sl t)).map (List.take ti.size)=some xs:=by exact rfl)(hl:Nat.beq xs.length ti.size=true:=by exact rfl)(hv:AV.agg xs=v):QnS X σ t T v:=Qp5 ha hx hl hv
theorem zex{x:Option AO}{e:TypeId}{p q:List AV}(h2:p=q)(h:x=some (.box e p):=by exact rfl):x=some (.box e q):=Qsv h h2
theorem ze0{p:Prop}(h:p:=by first|exact zeb|exact zen|exact zel|exact zep):p:=h
theorem ze1{G R:Prop}(k:R)(h:R->G:=by intro r;first|exact zec r|exact zeo r|exact zem r|exact zeq1 r|exact zea r|exact zex r|exact zca (hv:=r)):G:=h k
theorem zae{p:Prop}(h:p:=by(repeat'(first|apply And.intro|exact ze0|refine ze1 ?_|refine zei ?_ ?_|exact rfl|trivial));all_goals exact Qil.mk rfl):p:=h
section
variable {X:Cx} {σ:AS} {o:Oper} {K:AS->Prop} {t:Nat} {p q:Int} {m n:Nat} {xt yt:TypeId} {x y:Operand}
theorem zk0(hK:K (σ.put t (.d (.n .i64 ((m+n:Nat):Int)))))(ho:o.op=.binOp .add xt x y yt:=by exact rfl)(hd:o.dst=some t:=by exact rfl)(hx:σ.ev x=.d (.n .i64 p):=by exact rfl)(hp:p=(m:Int):=by first|with_reducible rfl|exact nlit _|exact(Xax (by omega)).symm|rfl)(hy:σ.ev y=.d (.n .i64 q):=by exact rfl)(hq:q=(n:Int):=by first|with_reducible rfl|exact nlit _|exact(Xax (by omega)).symm|rfl)(hb:m+n<=9223372036854775807:=by omega)(ht:Nat.blt t σ.nt=true:=by exact rfl):QOk X o σ K:=
 QrE ho hd hx hy (by omega) ht (by rw[hp,hq];exact hK)
theorem zk1(hK:K (σ.put t (.d (.n .i64 ((m-n:Nat):Int)))))(ho:o.op=.binOp .sub xt x y yt:=by exact rfl)(hd:o.dst=some t:=by exact rfl)(hx:σ.ev x=.d (.n .i64 p):=by exact rfl)(hp:p=(m:Int):=by first|with_reducible rfl|exact nlit _|exact(Xax (by omega)).symm|rfl)(hy:σ.ev y=.d (.n .i64 q):=by exact rfl)(hq:q=(n:Int):=by first|with_reducible rfl|exact nlit _|exact(Xax (by omega)).symm|rfl)(hb:n<=m/\m<=9223372036854775807:=by omega)(ht:Nat.blt t σ.nt=true:=by exact rfl):QOk X o σ K:=
 Qr8 ho hd hx hy (by omega) ht (by rw[show p-q=((m-n:Nat):Int) by omega];exact hK)
theorem zk2(hK:K (σ.put t (.d (.n .i64 ((m*n:Nat):Int)))))(ho:o.op=.binOp .mul xt x y yt:=by exact rfl)(hd:o.dst=some t:=by exact rfl)(hx:σ.ev x=.d (.n .i64 p):=by exact rfl)(hp:p=(m:Int):=by first|with_reducible rfl|exact nlit _|exact(Xax (by omega)).symm|rfl)(hy:σ.ev y=.d (.n .i64 q):=by exact rfl)(hq:q=(n:Int):=by first|with_reducible rfl|exact nlit _|exact(Xax (by omega)).symm|rfl)(hb:m*n<=9223372036854775807:=by omega)(ht:Nat.blt t σ.nt=true:=by exact rfl):QOk X o σ K:=
 Qt5 ho hd hx hy (by rw[hp,hq,<-Xcw];omega) ht (by rw[hp,hq,<-Xcw];exact hK)
theorem zk3(hK:K (σ.put t (.d (.n .i64 ((m / n:Nat):Int)))))(ho:o.op=.binOp .quo xt x y yt:=by exact rfl)(hd:o.dst=some t:=by exact rfl)(hx:σ.ev x=.d (.n .i64 p):=by exact rfl)(hp:p=(m:Int):=by first|with_reducible rfl|exact nlit _|exact(Xax (by omega)).symm|rfl)(hy:σ.ev y=.d (.n .i64 q):=by exact rfl)(hq:q=(n:Int):=by first|with_reducible rfl|exact nlit _|exact(Xax (by omega)).symm|rfl)(hb:0<n/\m<=9223372036854775807:=by omega)(ht:Nat.blt t σ.nt=true:=by exact rfl):QOk X o σ K:=
 Qub ho hd hx hy (by omega) ht (by rw[hp,hq,<-Int.natCast_ediv];exact hK)
theorem zk4(hK:K (σ.put t (.d (.n .i64 ((m % n:Nat):Int)))))(ho:o.op=.binOp .rem xt x y yt:=by exact rfl)(hd:o.dst=some t:=by exact rfl)(hx:σ.ev x=.d (.n .i64 p):=by exact rfl)(hp:p=(m:Int):=by first|with_reducible rfl|exact nlit _|exact(Xax (by omega)).symm|rfl)(hy:σ.ev y=.d (.n .i64 q):=by exact rfl)(hq:q=(n:Int):=by first|with_reducible rfl|exact nlit _|exact(Xax (by omega)).symm|rfl)(hb:0<n:=by omega)(ht:Nat.blt t σ.nt=true:=by exact rfl):QOk X o σ K:=
 Qus ho hd hx hy (by omega) ht (by rw[hp,hq,<-Int.natCast_emod];exact hK)
end
section
variable {X:Cx} {σ:AS} {o:Oper} {K:AS->Prop} {t:Nat} {p q:Int} {xt yt:TypeId} {x y:Operand}
theorem zk5(hK:K (σ.put t (.d (.n .i64 (p+q)))))(ho:o.op=.binOp .add xt x y yt:=by exact rfl)(hd:o.dst=some t:=by exact rfl)(hx:σ.ev x=.d (.n .i64 p):=by exact rfl)(hy:σ.ev y=.d (.n .i64 q):=by exact rfl)(hb : -9223372036854775808<=p+q/\p+q<=9223372036854775807:=by omega)(ht:Nat.blt t σ.nt=true:=by exact rfl):QOk X o σ K:=QrE ho hd hx hy hb ht hK
theorem zk6(hK:K (σ.put t (.d (.n .i64 (p-q)))))(ho:o.op=.binOp .sub xt x y yt:=by exact rfl)(hd:o.dst=some t:=by exact rfl)(hx:σ.ev x=.d (.n .i64 p):=by exact rfl)(hy:σ.ev y=.d (.n .i64 q):=by exact rfl)(hb : -9223372036854775808<=p-q/\p-q<=9223372036854775807:=by omega)(ht:Nat.blt t σ.nt=true:=by exact rfl):QOk X o σ K:=Qr8 ho hd hx hy hb ht hK
theorem zk10(hK:K (σ.put t (.d (.n .u8 (p-q)))))(ho:o.op=.binOp .sub xt x y yt:=by exact rfl)(hd:o.dst=some t:=by exact rfl)(hx:σ.ev x=.d (.n .u8 p):=by exact rfl)(hy:σ.ev y=.d (.n .u8 q):=by exact rfl)(hb:0<=p-q/\p-q<=255:=by omega)(ht:Nat.blt t σ.nt=true:=by exact rfl):QOk X o σ K:=
 ZC ho hd hx hy (by simp only[binI,IntWalk.u8_in _ hb]) ht hK
end
section
variable {X:Cx} {σ:AS} {o:Oper} {K:AS->Prop} {t:Nat}
theorem zk11{x:Operand}{T:TypeId}{l:List UInt8}(hK:K (σ.put t (.d (.n .i64 l.length))))(ho:o.op=.call { callee:=.builtin .len,args:=#[x],argTypes:=#[T] }:=by exact rfl)(hd:o.dst=some t:=by exact rfl)(hT:V8 X T=true:=by exact rfl)(hx:σ.ev x=.d (.s l):=by exact rfl)(ht:Nat.blt t σ.nt=true:=by exact rfl):QOk X o σ K:=
 Je hd ht (fun a w en h=>by
  have hu:=Wh hT
  obtain⟨F,⟨e1,_⟩,_⟩:=QP h hx
  refine⟨.int .i64 l.length,fun w' _=>?_,[],⟨rfl,rfl⟩,by simp⟩
  have h1:=run_len_string (P:=X.P) w' T o.type ⟨l.toArray⟩ hu
  simp only[execOp,ho,resolve,Sem.run_bind,Sem.run_pure,Result.andThen,invoke,builtin,Xbr,Xaw,Xbb,e1,h1]
  rfl) hK
theorem zk12{x:Operand}{T e:TypeId}{es:List (List D)}{n:Nat}(hK:n<=9223372036854775807->K (σ.put t (.d (.n .i64 n))))(ho:o.op=.call { callee:=.builtin .len,args:=#[x],argTypes:=#[T] }:=by exact rfl)(hd:o.dst=some t:=by exact rfl)(hT:Ju X T=some e:=by exact rfl)(hx:σ.els (σ.ev x)=some es:=by exact rfl)(hn:es.length=n:=by first|exact Xah _|exact Qj _|exact QK _|exact Qb _|exact(rfl:_=1)|exact(rfl:_=0)|exact(rfl:_=2)|exact(rfl:_=3)|exact Jc (by omega)|assumption|exact Xak.trans (Xah _)|exact(Xak.trans Xak).trans (Xah _)|rfl)(ht:Nat.blt t σ.nt=true:=by exact rfl):QOk X o σ K:=fun a w hr=>by
 have hu:=QL hT
 have hr0:=hr
 obtain⟨en,h0⟩:=hr
 obtain⟨A,cap,e1,h1,h2,_⟩:=Zz h0 hx (AS.ev_shows h0 x)
 have hb:n<=9223372036854775807:=by rw[<-hn];unfold maxLen at h2;omega
 refine Je hd ht (fun a w en h=>?_) (hK hb) a w hr0
 obtain⟨A,cap,e1,h1,h2,_⟩:=Zz h hx (AS.ev_shows h x)
 refine⟨.int .i64 n,fun w' _=>?_,[],⟨rfl,rfl⟩,by simp⟩
 simp[execOp,ho,resolve,invoke,builtin,e1,Builtin.len_,run_underlying hu,goInt,hn,Sem.run_pure]
theorem zk13{T e:TypeId}{x y:Operand}{es:List (List D)}{el:List D}{i:Int}{j n:Nat}[te:TI X.P e](ho:o.op=.indexAddr T x y)(hd:o.dst=some t)(hT:Ju X T=some e)(hK:K (σ.put t (.pd el 0)))(hx:σ.ev x=.d (.sl es):=by exact rfl)(hy:σ.ev y=.d (.n .i64 i):=by exact rfl)(hj:i=(j:Int):=by first|with_reducible rfl|exact nlit _|exact(Xax (by omega)).symm|rfl)(hn:es.length=n:=by first|exact Xah _|exact Qj _|exact QK _|exact Qb _|exact(rfl:_=1)|exact(rfl:_=0)|exact(rfl:_=2)|exact(rfl:_=3)|exact Jc (by omega)|assumption|exact Xak.trans (Xah _)|exact(Xak.trans Xak).trans (Xah _)|rfl)(hlt:j<n:=by first|omega|decide)(hel:es[j]?=some el:=by first|exact Z5 (by omega)|rfl)(hz:Nat.beq el.length te.size=true:=by exact rfl)(ht:Nat.blt t σ.nt=true:=by exact rfl):QOk X o σ K:=QnY ho hd hT hx hy hj hn hlt hel hz ht hK
theorem zk14{T e:TypeId}{x y:Operand}{p:Nat}{es:List (List D)}{dp:Bool}{i:Int}{j n:Nat}(hK:K (σ.put t (.pr p j 0)))(ho:o.op=.indexAddr T x y:=by exact rfl)(hd:o.dst=some t:=by exact rfl)(hT:Ju X T=some e:=by exact rfl)(hx:σ.ev x=.row p:=by exact rfl)(hp:Qm σ.ob p=some (.row e es dp):=by exact rfl)(hy:σ.ev y=.d (.n .i64 i):=by exact rfl)(hj:i=(j:Int):=by first|with_reducible rfl|exact nlit _|exact(Xax (by omega)).symm|rfl)(hn:es.length=n:=by first|exact Xah _|exact Qj _|exact QK _|exact Qb _|exact(rfl:_=1)|exact(rfl:_=0)|exact(rfl:_=2)|exact(rfl:_=3)|exact Jc (by omega)|assumption|exact Xak.trans (Xah _)|exact(Xak.trans Xak).trans (Xah _)|rfl)(hlt:j<n:=by first|omega|decide)(ht:Nat.blt t σ.nt=true:=by exact rfl):QOk X o σ K:=by
 unfold Ju at hT
 split at hT
 ·rename_i ti _
  unfold Qcu at hT
  split at hT
  ·rename_i hde
   injection hT with hT
   subst hT
   exact Qs4 (ti:=ti) hde rfl ho hd hx hp hy (by omega) ht (by rw[show i.toNat=j by omega];exact hK)
  ·cases hT
 ·cases hT
theorem zk15{T:TypeId}{x:Operand}{low high:Option Operand}{l:List UInt8}{i j:Nat}{p q:Int}(hK:K (σ.put t (.d (.s ((l.take j).drop i)))))(ho:o.op=.slice T x low high none:=by exact rfl)(hd:o.dst=some t:=by exact rfl)(hT:V8 X T=true:=by exact rfl)(hx:σ.ev x=.d (.s l):=by exact rfl)(hlo:σ.low low=some p:=by exact rfl)(hi:p=(i:Int):=by first|with_reducible rfl|exact nlit _|exact(Xax (by omega)).symm|rfl)(hhi:σ.high l.length high=some q:=by exact rfl)(hj:q=(j:Int):=by first|with_reducible rfl|exact nlit _|exact(Xax (by omega)).symm|rfl)(hb:i<=j/\j<=l.length:=by omega)(ht:Nat.blt t σ.nt=true:=by exact rfl):QOk X o σ K:=by
 subst hi;subst hj
 refine Je hd ht (fun a w en h=>?_) hK
 have hu:=Wh hT
 obtain⟨F,⟨e,_⟩,_⟩:=QP h hx
 refine⟨.string ⟨((l.take j).drop i).toArray⟩,fun w' _=>?_,[],⟨rfl,rfl⟩,by simp⟩
 have h1:=Xp (P:=X.P) (w:=w') (isS:=false) (len:=l.length) (cap:=l.length) (Qgs h hlo) (QcC h hhi) hb.1 hb.2
 have e2:(⟨l.toArray⟩:ByteArray).extract i j=⟨((l.take j).drop i).toArray⟩:=by
  apply ByteArray.ext
  simp[ByteArray.data_extract,List.drop_take]
 have hsz:(⟨l.toArray⟩:ByteArray).size=l.length:=by simp[ByteArray.size]
 simp only[execOp,ho,e,Instr.sliceAt,Sem.run_bind,run_underlying hu,Instr.slice,Option.isSome_none,XaV,if_false,hsz,Xcu,h1,Sem.run_pure,e2,Result.andThen]
theorem zk16{T e:TypeId}{x:Operand}{low high:Option Operand}{es:List (List D)}{n i j:Nat}{p q:Int}[te:TI X.P e](ho:o.op=.slice T x low high none)(hd:o.dst=some t)(hT:Ju X T=some e)(hK:K (σ.put t (.d (.sl ((es.take j).drop i)))))(hx:σ.ev x=.d (.sl es):=by exact rfl)(hn:es.length=n:=by first|exact Xah _|exact Qj _|exact QK _|exact Qb _|exact(rfl:_=1)|exact(rfl:_=0)|exact(rfl:_=2)|exact(rfl:_=3)|exact Jc (by omega)|assumption|exact Xak.trans (Xah _)|exact(Xak.trans Xak).trans (Xah _)|rfl)(hlo:σ.low low=some p:=by exact rfl)(hi:p=(i:Int):=by first|with_reducible rfl|exact nlit _|exact(Xax (by omega)).symm|rfl)(hhi:σ.high n high=some q:=by exact rfl)(hj:q=(j:Int):=by first|with_reducible rfl|exact nlit _|exact(Xax (by omega)).symm|rfl)(hb:i<=j/\j<=n:=by omega)(hz:lenE es te.size:=by first|exact QaF rfl|exact Xi (fun _=>rfl)|exact ZN (fun _=>rfl))(ht:Nat.blt t σ.nt=true:=by exact rfl):QOk X o σ K:=by
 subst hi;subst hj;subst hn
 refine Je hd ht (fun a w en h=>?_) hK
 have hu:=QL hT
 obtain⟨F,h1,hI⟩:=QP h hx
 obtain⟨A,cap,z,us,F',h2,h3,h4,h5,h6,h7,h8⟩:=h1
 obtain⟨q,h12,_,h13,_⟩:=te.parts
 have hbnd:=fun w'=>Xp (P:=X.P) (w:=w') (isS:=true) (len:=es.length) (cap:=cap) (Qgs h hlo) (QcC h hhi) hb.1 (Xao hb.2 h3)
 have hlen:((es.take j).drop i).length=j-i:=by simp;omega
 refine⟨.slice (if cap=i then A else A.map (·.add (i*te.size))) (j-i) (cap-i),fun w' _=>?_,?_⟩
 ·simp only[execOp,ho,h2,Instr.sliceAt,Sem.run_bind,run_underlying hu,Instr.slice,Xcu,hbnd w',sizeOf,typeInfo,run_program,h12,h13,Sem.run_pure,Result.andThen]
 ·have hspl:es=(es.take j).take i++((es.take j).drop i++es.drop j):=by rw[<-Xaq,XaO,XaO]
  rw[hspl]at h7
  obtain⟨u1,u23,F1,F23,rfl,rfl,k1,k2⟩:=Yg h7
  obtain⟨u2,u3,F2,F3,rfl,rfl,k3,k4⟩:=Yg k2
  have hlz:∀x∈(es.take j).drop i,x.length=z:=fun x hx=>h6 x (XaC (XaK hx))
  have hl1:u1.length=i*z:=by
   have:=Q6 k1 (fun x hx=>h6 x (XaC (XaC hx)))
   rw[this]
   congr 1
   simp;omega
  by_cases hE:(es.take j).drop i=[]
  ·have:F2=[]:=by rw[hE]at k3;exact k3.2
   subst this
   refine⟨[],⟨if cap=i then A else A.map (·.add (i*te.size)),cap-i,z,u2,[],by rw[hlen],by rw[hlen];omega,by omega,fun e=>?_,hlz,k3,.inl ⟨hE,rfl⟩⟩,by simp⟩
   have hA:A=none:=by
    split at e
    ·exact e
    ·simpa using e
   have:=h5 hA
   omega
  ·have hij:i<j:=by
    rcases Nat.lt_or_ge i j with h'|h'
    ·exact h'
    ·exact absurd (XaA (by rw[hlen];omega)) hE
   rcases h8 with ⟨h8,_⟩|⟨h8,b,off,rfl,h10,h9,h11⟩
   ·subst h8;simp at hE
   ·have hzz:te.size=z:=by
     obtain⟨x,xs,hx⟩:=List.exists_cons_of_ne_nil h8
     rw[<-hz x (by rw[hx];exact Xaa),h6 x (by rw[hx];exact Xaa)]
    rw[if_neg (by omega:¬cap=i),hzz]
    simp only[XaT,J5]
    refine⟨b::F2,⟨_,cap-i,z,u2,F2,by rw[hlen],by rw[hlen];omega,by omega,(fun e=>by cases e),hlz,k3,.inr ⟨hE,b,off+i*z,rfl,h10,rfl,fun k v hk=>?_⟩⟩,fun c hc=>?_⟩
    ·rw[XbD]
     refine h11 _ _ ?_
     rw[List.getElem?_append_right (by omega),hl1,List.getElem?_append_left (by have:=(List.getElem?_eq_some_iff.1 hk).1;omega),<-hk]
     congr 1
     omega
    ·rw[h9]at hI
     rcases Xaj.1 hc with rfl|hc
     ·exact hI _ Xaa
     ·exact hI c (Xae _ (Xav _ (Xat _ hc)))
end
section
variable {X:Cx} {σ:AS} {o:Oper} {K:AS->Prop} {Q:Exit->AS->Prop} {t:Nat}
theorem zk17{src dst e:TypeId}{x:Operand}{es:List (List D)}{l:List UInt8}(hK:K (σ.put t (.d (.s l))))(ho:o.op=.convert src dst x:=by exact rfl)(hd:o.dst=some t:=by exact rfl)(hT:Ju X src=some e:=by exact rfl)(he:Qp4 X e=true:=by exact rfl)(hs:V8 X dst=true:=by exact rfl)(hx:σ.els (σ.ev x)=some es:=by exact rfl)(hl:es=QG l:=by first|rfl|exact QgS (by omega)|exact QgQ _ _ _)(ht:Nat.blt t σ.nt=true:=by exact rfl):QOk X o σ K:=
 Je hd ht (fun a w en h=>by
  subst hl
  obtain⟨A,cap,e1,h1,h2,h3,F,h4⟩:=Zz h hx (AS.ev_shows h x)
  obtain⟨A',cap',z,us,F',e2,h5,h6,h7,h8,h9,h10⟩:=h4
  rw[e1]at e2
  injection e2 with e2 _ e3
  subst e2;subst e3
  have hll:(QG l).length=l.length:=by simp[QG]
  have hus:=Z4 h9
  subst hus
  refine⟨.string ⟨l.toArray⟩,fun w' hw'=>?_,[],⟨rfl,rfl⟩,by simp⟩
  cases A with
  | none=>
   have hn:l=[]:=by
    have h11:=h3 rfl
    rw[hll]at h1
    exact XaA (by omega)
   subst hn
   have hr:=run_convert_bytes_string (P:=X.P) w' src dst e none 0 cap (QL hT) (QcS he) (Wh hs)
   have h0:(Conv.bytesToString (.slice none 0 cap)).run X.P w'=.ok (.string ⟨([]:List UInt8).toArray⟩) w':=by simp[Conv.bytesToString];rfl
   simp only[execOp,ho,e1,QG,Xbb,XaU,Sem.run_bind,hr,h0,Result.andThen]
   rfl
  | some ad=>
   have hcells:∀j (hj:j<l.length),w'.cell? (ad.add j)=some (.int .u8 (l[j].toNat:Int)):=fun j hj=>by
    rcases h10 with ⟨h10,_⟩|⟨h10,b,off,e5,h11,h12,h13⟩
    ·have:l=[]:=by simpa [QG] using h10
     subst this;simp at hj
    ·injection e5 with e5
     subst e5
     rw[J5]
     refine hw'.cell (h13 j _ ?_)
     simp[List.getElem?_eq_getElem hj]
   have hr:=run_convert_bytes_back (P:=X.P) w' src dst e ad cap l (QL hT) (QcS he) (Wh hs) hcells
   simp only[execOp,ho,e1,hll,Sem.run_bind,hr,Result.andThen]
   rfl) hK
theorem zk18{T:TypeId}{x y:Operand}{l:List UInt8}{p:Int}{j:Nat}(hK:K (σ.put t (.d (.n .u8 (l.getD j 0).toNat))))(ho:o.op=.index T x y:=by exact rfl)(hd:o.dst=some t:=by exact rfl)(hT:V8 X T=true:=by exact rfl)(hx:σ.ev x=.d (.s l):=by exact rfl)(hy:σ.ev y=.d (.n .i64 p):=by exact rfl)(hj:p=(j:Int):=by first|with_reducible rfl|exact nlit _|exact(Xax (by omega)).symm|rfl)(hlt:j<l.length:=by omega)(ht:Nat.blt t σ.nt=true:=by exact rfl):QOk X o σ K:=by
 unfold V8 at hT
 split at hT
 ·rename_i ti _
  unfold Qd8 at hT
  split at hT
  ·rename_i hde
   subst hj
   exact Qvt (ti:=ti) hde ho hd hx hy (by omega) ht (by simpa using hK)
  ·cases hT
 ·cases hT
theorem zk19{l r:List UInt8}{xt yt:TypeId}{x y:Operand}(hK:K (σ.put t (.d (.s (l++r)))))(ho:o.op=.binOp .add xt x y yt:=by exact rfl)(hd:o.dst=some t:=by exact rfl)(hx:σ.ev x=.d (.s l):=by exact rfl)(hy:σ.ev y=.d (.s r):=by exact rfl)(hb:l.length+r.length<=9223372036854775807:=by first|omega|(simp only[Xar,XaU];omega)|(simp only[Xac];omega)|(simp only[Xac,Xar,XaU];omega))(ht:Nat.blt t σ.nt=true:=by exact rfl):QOk X o σ K:=Qux ho hd hx hy hb ht hK

theorem zk20{src dst:TypeId}{k:IntKind}{x:Operand}{p:Int}(hK:K (σ.put t (.d (.n .u8 p))))(ho:o.op=.convert src dst x:=by exact rfl)(hd:o.dst=some t:=by exact rfl)(hs:hasT X src=true:=by exact rfl)(hT:intT X dst=some .u8:=by exact rfl)(hx:σ.ev x=.d (.n k p):=by exact rfl)(hb:0<=p/\p<=255:=by omega)(ht:Nat.blt t σ.nt=true:=by exact rfl):QOk X o σ K:=
 Qf1 ho hd hs hT hx ht (by rw[IntWalk.u8_in _ hb];exact hK)
end
section
variable {X:Cx} {σ:AS} {o:Oper} {K:AS->Prop} {t:Nat}
theorem zk21{src dst:TypeId}{k:IntKind}{x:Operand}{p:Int}{n:Nat}(hK:K (σ.put t (.d (.n .u8 ((UInt8.ofNat n).toNat:Int)))))(ho:o.op=.convert src dst x:=by exact rfl)(hd:o.dst=some t:=by exact rfl)(hs:hasT X src=true:=by exact rfl)(hT:intT X dst=some .u8:=by exact rfl)(hx:σ.ev x=.d (.n k p):=by exact rfl)(hp:p=(n:Int):=by first|with_reducible rfl|exact nlit _|exact(Xax (by omega)).symm|rfl)(ht:Nat.blt t σ.nt=true:=by exact rfl):QOk X o σ K:=
 Qf1 ho hd hs hT hx ht (by
  have:IntKind.u8.wrap p=((UInt8.ofNat n).toNat:Int):=by
   subst hp
   simp[IntKind.wrap,IntKind.bits,IntKind.signed]
  rw[this];exact hK)
end
section
variable {X:Cx} {σ:AS} {o:Oper} {K:AS->Prop} {Q:Exit->AS->Prop} {t:Nat}
theorem zk22{src dst:TypeId}{k:IntKind}{x:Operand}{p:Int}(hK:K (σ.put t (.d (.n .i64 p))))(ho:o.op=.convert src dst x:=by exact rfl)(hd:o.dst=some t:=by exact rfl)(hs:hasT X src=true:=by exact rfl)(hT:intT X dst=some .i64:=by exact rfl)(hx:σ.ev x=.d (.n k p):=by exact rfl)(hb : -9223372036854775808<=p/\p<=9223372036854775807:=by omega)(ht:Nat.blt t σ.nt=true:=by exact rfl):QOk X o σ K:=
 Qf1 ho hd hs hT hx ht (by rw[IntWalk.i64_in _ hb];exact hK)
end
section
variable {X:Cx} {σ:AS} {o:Oper} {K:AS->Prop} {t:Nat}
theorem zk23{T:TypeId}{parts:Array (Nat×Operand)}{fs:List Field}{pl:List (Nat×Nat)}{cs:List AV}[ti:TI X.P T](ho:o.op=.build T parts)(hK:K (σ.put t (.agg cs)))(hd:o.dst=some t:=by exact rfl)(hfs:WB ti.desc=some fs:=by exact rfl)(hpl:QfL X fs=some pl:=by exact rfl)(hcs:QpA pl (W0 ti.zero) (σ.evParts parts.toList)=some cs:=by exact rfl)(ht:Nat.blt t σ.nt=true:=by exact rfl):QOk X o σ K:=
 Je hd ht (fun a w en h=>by
  have hu:=ti.und
  unfold WB at hfs
  split at hfs
  ·rename_i fa hde
   injection hfs with hfs
   subst hfs
   rw[hde]at hu
   obtain⟨i,q1,q2,_⟩:=ti.parts
   obtain⟨hp1,hp2⟩:=VH h parts.toList
   obtain⟨r,r1,r2⟩:=Qk2 (vs:=parts.toList.map fun x=>(x.1,a.eval x.2)) (cells:=ti.zero.cells) h.mem hcs (Yq _) hp1 hp2
   have hb:X.P.built T (parts.toList.map fun x=>(x.1,a.eval x.2))=some r:=by
    unfold Program.built
    simp only[q1,hu,q2,QeE hpl,r1]
   have hmp:(parts.map (fun(x:Nat×Operand)=>(x.1,a.eval x.2))).toList=parts.toList.map fun x=>(x.1,a.eval x.2):=by simp
   refine⟨.agg r,fun w' _=>?_,r.toList,by simp,r2⟩
   have hr:=run_build (P:=X.P) w' T (parts.map (fun(x:Nat×Operand)=>(x.1,a.eval x.2))) r (by rw[hmp];exact hb)
   simp only[execOp,ho,Sem.run_bind,hr,Result.andThen]
   rfl
  ·cases hfs) hK

theorem zk26{x y:Operand}{T1 T2:TypeId}{p q:Int}(hK:K (σ.put t (.d (.n .i64 (min p q)))))(ho:o.op=.call { callee:=.builtin .min,args:=#[x,y],argTypes:=#[T1,T2] }:=by exact rfl)(hd:o.dst=some t:=by exact rfl)(hx:σ.ev x=.d (.n .i64 p):=by exact rfl)(hy:σ.ev y=.d (.n .i64 q):=by exact rfl)(ht:Nat.blt t σ.nt=true:=by exact rfl):QOk X o σ K:=
 Je hd ht (fun a w en h=>by
  obtain⟨F,⟨e1,_⟩,_⟩:=QP h hx
  obtain⟨G,⟨e2,_⟩,_⟩:=QP h hy
  refine⟨.int .i64 (min p q),fun w' _=>?_,[],⟨rfl,rfl⟩,by simp⟩
  have h1:=run_min_int2 (P:=X.P) w' #[T1,T2] o.type .i64 .i64 p q
  simp only[execOp,ho,resolve,Sem.run_bind,Sem.run_pure,Result.andThen,invoke,builtin,Xbr,Xaw,Xbb,e1,e2,h1]
  rw[show(if q<p then q else p)=min p q by split <;> omega]) hK
theorem zk27{x y:Operand}{T1 T2:TypeId}{p q:Int}(hK:K (σ.put t (.d (.n .i64 (max p q)))))(ho:o.op=.call { callee:=.builtin .max,args:=#[x,y],argTypes:=#[T1,T2] }:=by exact rfl)(hd:o.dst=some t:=by exact rfl)(hx:σ.ev x=.d (.n .i64 p):=by exact rfl)(hy:σ.ev y=.d (.n .i64 q):=by exact rfl)(ht:Nat.blt t σ.nt=true:=by exact rfl):QOk X o σ K:=
 Je hd ht (fun a w en h=>by
  obtain⟨F,⟨e1,_⟩,_⟩:=QP h hx
  obtain⟨G,⟨e2,_⟩,_⟩:=QP h hy
  refine⟨.int .i64 (max p q),fun w' _=>?_,[],⟨rfl,rfl⟩,by simp⟩
  have h1:=run_max_int2 (P:=X.P) w' #[T1,T2] o.type .i64 .i64 p q
  simp only[execOp,ho,resolve,Sem.run_bind,Sem.run_pure,Result.andThen,invoke,builtin,Xbr,Xaw,Xbb,e1,e2,h1]
  rw[show(if q>p then q else p)=max p q by split <;> omega]) hK
theorem zk28{T yt:TypeId}{x y:Operand}{xs ys:List AV}{b:Bool}{ti:TI X.P T}{ns:List Nat}(hc:(ns.all fun T=>!X.P.stoodInHeld T)=true)(hg:X.P.eqGuardType X.P.depth T=false)(hK:K (σ.put t (.d (.b b))))(ho:o.op=.binOp .eql T x y yt:=by exact rfl)(hd:o.dst=some t:=by exact rfl)(hx:σ.ev x=.agg xs:=by exact rfl)(hy:σ.ev y=.agg ys:=by exact rfl)(htt:X.tt T=some ti:=by exact rfl)(hst:(WB ti.desc).isSome=true:=by exact rfl)(hb:eqT X ns 100 T xs ys=some b:=by exact rfl)(ht:Nat.blt t σ.nt=true:=by exact rfl):QOk X o σ K:=
 Je hd ht (fun a w en h=>by
  obtain⟨us,e1,h1⟩:=QP h hx
  obtain⟨vs,e2,h2⟩:=QP h hy
  refine⟨.bool b,fun w' _=>?_,[],⟨rfl,rfl⟩,by simp⟩
  obtain⟨k1,_⟩:=Qmy (w:=w') hc 100 9900 htt hb h1 h2
  obtain⟨fs,hfs⟩:=Xbo.1 hst
  simp only[X1,hfs]at k1
  have k2:=run_eql_struct (P:=X.P) w' T us.toArray vs.toArray
  rw[k1]at k2
  simp only[execOp,ho,e1,e2,Sem.run_bind,run_eqGuard_agg w' .eql T x y us.toArray vs.toArray hg,Result.andThen_ok,k2]
  rfl) hK
theorem zk29{T yt:TypeId}{x y:Operand}{xs ys:List AV}{b:Bool}{ti:TI X.P T}{ns:List Nat}(hc:(ns.all fun T=>!X.P.stoodInHeld T)=true)(hg:X.P.eqGuardType X.P.depth T=false)(hK:K (σ.put t (.d (.b (!b)))))(ho:o.op=.binOp .neq T x y yt:=by exact rfl)(hd:o.dst=some t:=by exact rfl)(hx:σ.ev x=.agg xs:=by exact rfl)(hy:σ.ev y=.agg ys:=by exact rfl)(htt:X.tt T=some ti:=by exact rfl)(hst:(WB ti.desc).isSome=true:=by exact rfl)(hb:eqT X ns 100 T xs ys=some b:=by exact rfl)(ht:Nat.blt t σ.nt=true:=by exact rfl):QOk X o σ K:=
 Je hd ht (fun a w en h=>by
  obtain⟨us,e1,h1⟩:=QP h hx
  obtain⟨vs,e2,h2⟩:=QP h hy
  refine⟨.bool (!b),fun w' _=>?_,[],⟨rfl,rfl⟩,by simp⟩
  obtain⟨k1,_⟩:=Qmy (w:=w') hc 100 9900 htt hb h1 h2
  obtain⟨fs,hfs⟩:=Xbo.1 hst
  simp only[X1,hfs]at k1
  have k2:=run_neq_struct (P:=X.P) w' T us.toArray vs.toArray
  rw[k1]at k2
  simp only[execOp,ho,e1,e2,Sem.run_bind,run_eqGuard_agg w' .neq T x y us.toArray vs.toArray hg,Result.andThen_ok,k2]
  rfl) hK
theorem zk30{T e:TypeId}{x:Operand}{low high:Option Operand}{p n i j:Nat}{es:List (List D)}{dp:Bool}{u v:Int}[te:TI X.P e](ho:o.op=.slice T x low high none)(hd:o.dst=some t)(hT:Ju X T=some e)(hK:K (σ.put t (.sub p i j)))(hx:σ.ev x=.row p:=by exact rfl)(hp:Qm σ.ob p=some (.row e es dp):=by exact rfl)(hn:es.length=n:=by first|exact Xah _|exact Qj _|exact QK _|exact Qb _|exact(rfl:_=1)|exact(rfl:_=0)|exact(rfl:_=2)|exact(rfl:_=3)|exact Jc (by omega)|assumption|exact Xak.trans (Xah _)|exact(Xak.trans Xak).trans (Xah _)|rfl)(hlo:σ.low low=some u:=by exact rfl)(hi:u=(i:Int):=by first|with_reducible rfl|exact nlit _|exact(Xax (by omega)).symm|rfl)(hhi:σ.high n high=some v:=by exact rfl)(hj:v=(j:Int):=by first|with_reducible rfl|exact nlit _|exact(Xax (by omega)).symm|rfl)(hb:i<=j/\j<=n:=by omega)(ht:Nat.blt t σ.nt=true:=by exact rfl):QOk X o σ K:=by
 subst hi;subst hj;subst hn
 refine Je hd ht (fun a w en h=>?_) hK
 have hu:=QL hT
 obtain⟨y,hy,hyn,hya,A,c,g1,g2,g4,g5,g6⟩:=Qa2 h hp
 obtain⟨y',hy',e1,e2,e3⟩:=QP h hx
 have:=h.mem.ent_unique hy' hy (e1.trans hyn.symm)
 subst this
 obtain⟨q,h12,_,h13,_⟩:=te.parts
 have hbnd:=fun w'=>Xp (P:=X.P) (w:=w') (isS:=true) (len:=es.length) (cap:=c) (Qgs h hlo) (QcC h hhi) hb.1 (Xao hb.2 g2)
 refine⟨subV A c te.size i j,fun w' _=>?_,y',hy',e1,e2,⟨hb.1,by rw[hya];simpa [AO.lens] using hb.2⟩,A,_,c,te.size,g1,g6,rfl⟩
 rw[g1]at e3
 simp only[execOp,ho,e3,Instr.sliceAt,Sem.run_bind,run_underlying hu,Instr.slice,Xcu,hbnd w',sizeOf,typeInfo,run_program,h12,h13,Sem.run_pure,Result.andThen]
 rfl
theorem zk31{x:Operand}{T e:TypeId}{p i j:Nat}(hK:K (σ.put t (.d (.n .i64 ((j-i:Nat):Int)))))(ho:o.op=.call { callee:=.builtin .len,args:=#[x],argTypes:=#[T] }:=by exact rfl)(hd:o.dst=some t:=by exact rfl)(hT:Ju X T=some e:=by exact rfl)(hx:σ.ev x=.sub p i j:=by exact rfl)(ht:Nat.blt t σ.nt=true:=by exact rfl):QOk X o σ K:=
 Je hd ht (fun a w en h=>by
  have hu:=QL hT
  obtain⟨y,hy,e1,e2,e3,A,n,c,z,e4,e5,e6⟩:=QP h hx
  refine⟨.int .i64 ((j-i:Nat):Int),fun w' _=>?_,[],⟨rfl,rfl⟩,by simp⟩
  have e7:a.eval x=.slice (if c=i then A else A.map (·.add (i*z))) (j-i) (c-i):=e6
  simp[execOp,ho,resolve,invoke,builtin,e7,Builtin.len_,run_underlying hu,goInt,Sem.run_pure]) hK
theorem zk32{T e:TypeId}{x y:Operand}{p i j k:Nat}{es:List (List D)}{dp:Bool}{q:Int}[te:TI X.P e](ho:o.op=.indexAddr T x y)(hd:o.dst=some t)(hT:Ju X T=some e)(hK:K (σ.put t (.pr p (i+k) 0)))(hx:σ.ev x=.sub p i j:=by exact rfl)(hp:Qm σ.ob p=some (.row e es dp):=by exact rfl)(hy:σ.ev y=.d (.n .i64 q):=by exact rfl)(hq:q=(k:Int):=by first|with_reducible rfl|exact nlit _|exact(Xax (by omega)).symm|rfl)(hlt:k<j-i:=by omega)(hz:Nat.beq te.size 0=false:=by exact rfl)(ht:Nat.blt t σ.nt=true:=by exact rfl):QOk X o σ K:=
 Je hd ht (fun a w en h=>by
  subst hq
  have hu:=QL hT
  obtain⟨z,hzm,hzn,hza,A,c,g1,g2,g4,g5,g6⟩:=Qa2 h hp
  obtain⟨z',hz',e1,e2,e3,A',n,c',z0,e4,e5,e6⟩:=QP h hx
  have:=h.mem.ent_unique hz' hzm (e1.trans hzn.symm)
  subst this
  rw[g1]at e4
  injection e4 with e7 e8 e9
  subst e7;subst e9
  have hlen:z'.ao.lens.length=es.length:=by rw[hza];simp[AO.lens]
  rw[hlen]at e3
  obtain⟨g,hg⟩:=g5 (by omega)
  subst hg
  have hz0:z0=te.size:=by
   have h1:es.length≠0:=by omega
   obtain⟨l,hl⟩:∃l,l∈z'.ao.lens:=by
    cases hq:z'.ao.lens with
    | nil=>rw[hq]at hlen;simp at hlen;omega
    | cons l ls=>exact⟨l,Xaa⟩
   rw[<-e5 l hl,g6 l hl]
  subst hz0
  obtain⟨G,⟨ey,_⟩,_⟩:=QP h hy
  obtain⟨qi,h12,_,h13,_⟩:=te.parts
  have hc:¬c=i:=by omega
  have e7:a.eval x=.slice (some ⟨g,0+i*te.size,none⟩) (j-i) (c-i):=by
   rw[e6,subV,if_neg hc,XaT,J5]
  refine⟨.pointer (some ⟨g,(i+k)*te.size+0,none⟩),fun w' _=>?_,z',hz',hzn,e2,g,te.size,by rw[g1];rfl,g6,by rw[hlen];omega,rfl⟩
  have hkk:(0:Int)<=(k:Int)/\(k:Int)<((j-i:Nat):Int):=by omega
  have hmul:0+i*te.size+k*te.size=(i+k)*te.size+0:=by rw[XaR];omega
  have hz':¬qi.size=0:=by
   rw[h13];intro e0
   rw[e0]at hz;cases hz
  simp[execOp,ho,e7,ey,Instr.indexAt,asIntOf,run_underlying hu,hlt,sizeOf,typeInfo,h12,h13,Sem.run_pure,J5,Nat.add_mul]) hK
theorem zk33{T e:TypeId}{x:Operand}{v:AV}{p i off:Nat}{es:List (List D)}{dp:Bool}{el:List D}[ti:TI X.P T](ho:o.op=.load T x)(hK:K (σ.put t v))(hd:o.dst=some t:=by exact rfl)(hx:σ.ev x=.pr p i off:=by exact rfl)(hp:Qm σ.ob p=some (.row e es dp):=by exact rfl)(hel:es[i]?=some el:=by first|exact Z5 (by omega)|rfl)(hv:((el.drop off).map AV.d)[0]?=some v:=by exact rfl)(ha:JQ ti.desc=false:=by exact rfl)(ht:Nat.blt t σ.nt=true:=by exact rfl)(hfl:(bif dp then el.all D.flat else true)=true:=by exact rfl):QOk X o σ K:=
 Qku ho hd (by rw[QuD hx hp hel hfl];exact hv) ha ht hK
theorem zk34{T e:TypeId}{x:Operand}{xs:List AV}{p i off:Nat}{es:List (List D)}{dp:Bool}{el:List D}[ti:TI X.P T](ho:o.op=.load T x)(hK:K (σ.put t (.agg xs)))(hd:o.dst=some t:=by exact rfl)(hx:σ.ev x=.pr p i off:=by exact rfl)(hp:Qm σ.ob p=some (.row e es dp):=by exact rfl)(hel:es[i]?=some el:=by first|exact Z5 (by omega)|rfl)(hv:((el.drop off).map AV.d).take ti.size=xs:=by exact rfl)(hl:Nat.beq xs.length ti.size=true:=by exact rfl)(ha:JQ ti.desc=true:=by exact rfl)(ht:Nat.blt t σ.nt=true:=by exact rfl)(hfl:(bif dp then el.all D.flat else true)=true:=by exact rfl):QOk X o σ K:=
 Qj6 ho hd (by rw[QuD hx hp hel hfl,<-hv];rfl) hl ha ht hK
theorem zk35{s x:Operand}{T S e:TypeId}{p:Nat}{es:List (List D)}{dp:Bool}{l:List UInt8}{n1:Nat}[te:TI X.P e](ho:o.op=.call { callee:=.builtin .append,args:=#[s,x],argTypes:=#[T,S] })(hd:o.dst=some t)(hT:Ju X T=some e)(hK:K ⟨σ.nt,(t,.row p)::cutS (notN p) σ.sl,(p,.row e (es++QG l) dp)::QhB (notN p) p σ.ob⟩)(hS:V8 X S=true:=by exact rfl)(hz0:te.zero=.int .u8 0:=by exact rfl)(hs1:te.size=1:=by exact rfl)(hb1:te.bytes=1:=by exact rfl)(hs:σ.ev s=.row p:=by exact rfl)(hp:Qm σ.ob p=some (.row e es dp):=by exact rfl)(hx:σ.ev x=.d (.s l):=by exact rfl)(hn1:es.length=n1:=by first|exact Xah _|exact Qj _|exact QK _|exact Qb _|exact(rfl:_=1)|exact(rfl:_=0)|exact(rfl:_=2)|exact(rfl:_=3)|exact Jc (by omega)|assumption|exact Xak.trans (Xah _)|exact(Xak.trans Xak).trans (Xah _)|rfl)(hb:n1+l.length<=1099511627776:=by omega)(hlo:X.fre p=true:=by exact rfl)(ht:Nat.blt t σ.nt=true:=by exact rfl):OpOk X o σ K:=by
 intro a w hr next Q hn
 obtain⟨en,h1⟩:=hr
 have hu:=QL hT
 obtain⟨y,hy,hyn,hya⟩:=h1.ent hp
 have hok:=h1.mem.ok y hy
 unfold EntOk at hok
 rw[hya]at hok
 obtain⟨z,us,k0,k1,k2,k3,k4,k5,k6,k7⟩:=hok
 obtain⟨q,q1,q2,q3,q4⟩:=te.parts
 have hzz:z=1:=by rw[te.sized,hs1]at k0;injection k0 with k0;exact k0.symm
 subst hzz
 obtain⟨F,⟨e1,_⟩,_⟩:=QP h1 hx
 obtain⟨y',hy',f1,f2,f3⟩:=QP h1 hs
 have:=h1.mem.ent_unique hy' hy (f1.trans hyn.symm)
 subst this
 have hsz:(⟨l.toArray⟩:ByteArray).size=l.length:=by simp[ByteArray.size]
 obtain⟨v',w',r1,r2,r3,r4⟩:=Qbi (P:=X.P) T S o.type e q hu (Wh hS) q1 (by rw[q2,hz0]) (by rw[q3,hs1]) (by rw[q4,hb1]) y'.val es.length us k2 ⟨l.toArray⟩ (by rw[hsz,hn1];exact hb)
 have hcells:Lib.strCells ⟨l.toArray⟩=l.map fun(b:UInt8)=>Value.int .u8 (b.toNat:Int):=by simp[Lib.strCells]
 rw[hsz,hcells]at r2
 have hrun:(execOp a.eval o).run X.P w=.ok (.value v') w':=by
  unfold execOp
  simp only[ho,resolve,invoke,builtin,Sem.run_bind,Sem.run_pure,Result.andThen_ok,Xbr,Xaw,Xbb,f3,e1,r1]
 let x':Ent:=⟨p,.row e (es++QG l) dp,v',y'.fs⟩
 have hsame:∀b,b<w.heap.size->blk y'.val≠some b->Same w w' b:=fun b hb hne=>r3.block b hb (by rw[QfC k2];exact fun e=>hne e.symm)
 have hsw:Qef X.P X.w0 X.Z X.O en w w' p x' (notN p):=
  ⟨h1.mem,fun n hn=>Qjo hn,(fun h=>by rw[VO]at h;cases h),r3.os,r3.tape,r3.output,r3.size,
   fun b hb hno=>hsame b hb (hno y' hy hyn),fun b hb=>by
    rcases hb with hb|⟨hd,hb⟩
    ·exact(r4 b hb).imp id (fun h=>⟨y',hy,hyn,.inl h⟩)
    ·exact .inr ⟨y',hy,hyn,.inr ⟨by rw[hya];exact hd,hb⟩⟩,rfl,X.Z.lo _ _ hlo⟩
 have hS5:∀b∈y'.fs,Same w w' b:=hsw.same_fs hy hyn k5 (fun hd=>(k7 hd).2.1)
 have hF6:∀g,blk v'=some g->Frs X.w0 X.O g:=fun g hg=>by
  rcases r4 g hg with h|h
  ·exact .inr (Xao h1.mem.size h)
  ·exact k6 g h
 have hrel:=h1.swap hsw
  (by
   unfold EntOk
   exact⟨1,us++l.map fun(b:UInt8)=>Value.int .u8 (b.toNat:Int),k0,k1,by rw[Xac,Qj];exact r2,fun q hq=>(Xag.1 hq).elim (k3 q) (fun h=>by
    unfold QG at h
    obtain⟨b,_,rfl⟩:=Xad.1 h
    rfl),by
    have:=J3 (QH r3.size _ _ _ k4 hS5) (Xd w' l)
    simpa using this,fun hd b hb=>hsw.imm (k5 hd b hb),hF6,fun hd=>⟨(k7 hd).1,fun b hb=>⟨((k7 hd).2.1 b hb).1,XaL ((k7 hd).2.1 b hb).2.1 r3.size,fun hq=>by
     rcases r4 b hq with h|h
     ·have:=((k7 hd).2.1 b hb).2.1;omega
     ·exact((k7 hd).2.1 b hb).2.2 h⟩,by
     rw[Xct]
     exact NstL.app (QA (Q4 k4)) ((k7 hd).2.2.same (Q4 k4) hS5) (NstL.nilE (Xd w' l))⟩⟩)
  (fun hd z hz hzn hdz b hb=>h1.mem.apart_ne hy hz (fun e=>hzn (e.symm.trans hyn)) (by rw[hya];exact hd) hdz hb)
 unfold Oper.wp
 rw[hrun,Oper.upon_value,hd]
 exact hn _ _ _ hK ⟨_,hrel.put ⟨x',Xaa,rfl,rfl,rfl⟩ ht⟩
theorem zk36{s x:Operand}{T e:TypeId}{p:Nat}{es es2:List (List D)}{dp:Bool}{n1 n2:Nat}[te:TI X.P e](ho:o.op=.call { callee:=.builtin .append,args:=#[s,x],argTypes:=#[T,T] })(hd:o.dst=some t)(hT:Ju X T=some e)(hK:K ⟨σ.nt,(t,.row p)::cutS (notN p) σ.sl,(p,.row e (es++es2) dp)::QhB (notN p) p σ.ob⟩)(hs:σ.ev s=.row p:=by exact rfl)(hp:Qm σ.ob p=some (.row e es dp):=by exact rfl)(hx:σ.els (σ.ev x)=some es2:=by exact rfl)(hk:Vg te:=by exact⟨rfl,rfl,rfl⟩)(hn1:es.length=n1:=by first|exact Xah _|exact Qj _|exact QK _|exact Qb _|exact(rfl:_=1)|exact(rfl:_=0)|exact(rfl:_=2)|exact(rfl:_=3)|exact Jc (by omega)|assumption|exact Xak.trans (Xah _)|exact(Xak.trans Xak).trans (Xah _)|rfl)(hn2:es2.length=n2:=by first|exact Xah _|exact Qj _|exact QK _|exact Qb _|exact(rfl:_=1)|exact(rfl:_=0)|exact(rfl:_=2)|exact(rfl:_=3)|exact Jc (by omega)|assumption|exact Xak.trans (Xah _)|exact(Xak.trans Xak).trans (Xah _)|rfl)(hz:lenE es2 te.size:=by first|exact QaF rfl|exact Xi (fun _=>rfl)|exact ZN (fun _=>rfl))(hfl:YT es2=true:=by first|rfl|exact QN (fun _=>rfl)|exact QaY (fun _=>rfl))(hb:n1+n2<=1099511627776:=by omega)(hlo:X.fre p=true:=by exact rfl)(ht:Nat.blt t σ.nt=true:=by exact rfl):OpOk X o σ K:=by
 intro a w hr next Q hn
 obtain⟨en,h1⟩:=hr
 have hu:=QL hT
 obtain⟨y,hy,hyn,hya⟩:=h1.ent hp
 have hok:=h1.mem.ok y hy
 have hokc:=hok
 unfold EntOk at hok
 rw[hya]at hok
 obtain⟨z,us,k0,k1,k2,k3,k4,k5,k6,k7⟩:=hok
 obtain⟨q,q1,q2,q3,q4⟩:=te.parts
 have hzz:z=te.size:=by rw[te.sized]at k0;simpa using k0.symm
 subst hzz
 obtain⟨A,cap,e1,g1,g2,g3,F,g4⟩:=Zz h1 hx (AS.ev_shows h1 x)
 obtain⟨A',cap',us2,F',e2,g5,g6,_⟩:=QnG g4 hz
 have hF':=Yt g6 (Yd hfl)
 subst hF'
 rw[e1]at e2
 injection e2 with e2 _ e3
 subst e2;subst e3
 obtain⟨y',hy',f1,f2,f3⟩:=QP h1 hs
 have:=h1.mem.ent_unique hy' hy (f1.trans hyn.symm)
 subst this
 have hb':es.length+es2.length<=1099511627776:=by rw[hn1,hn2];exact hb
 obtain⟨v',w',r1,r2,r3,r4⟩:=YM (P:=X.P) 0 T o.type e q te.zero te.size te.bytes hu q1 q2 q3 q4 ((Qg _ _).1 hk.zero) k1 y'.val es.length us k2 A es2.length cap us2 g5 (ZP g6)
  (by unfold maxLen;omega) (Zw hb' hk.bytes) (Xab _)
 have hrun:(execOp a.eval o).run X.P w=.ok (.value v') w':=by
  unfold execOp
  simp only[ho,resolve,invoke,builtin,Sem.run_bind,Sem.run_pure,Result.andThen_ok,Xbr,Xaw,Xbb,f3,e1,r1]
 let x':Ent:=⟨p,.row e (es++es2) dp,v',y'.fs⟩
 have hsame:∀b,b<w.heap.size->blk y'.val≠some b->Same w w' b:=fun b hb hne=>r3.block b hb (by rw[QfC k2];exact fun e=>hne e.symm)
 have hsw:Qef X.P X.w0 X.Z X.O en w w' p x' (notN p):=
  ⟨h1.mem,fun n hn=>Qjo hn,(fun h=>by rw[VO]at h;cases h),r3.os,r3.tape,r3.output,r3.size,
   fun b hb hno=>hsame b hb (hno y' hy hyn),fun b hb=>by
    rcases hb with hb|⟨hd,hb⟩
    ·exact(r4 b hb).imp id (fun h=>⟨y',hy,hyn,.inl h⟩)
    ·exact .inr ⟨y',hy,hyn,.inr ⟨by rw[hya];exact hd,hb⟩⟩,rfl,X.Z.lo _ _ hlo⟩
 have hS5:∀b∈y'.fs,Same w w' b:=hsw.same_fs hy hyn k5 (fun hd=>(k7 hd).2.1)
 have hF6:∀g,blk v'=some g->Frs X.w0 X.O g:=fun g hg=>by
  rcases r4 g hg with h|h
  ·exact .inr (Xao h1.mem.size h)
  ·exact k6 g h
 have hrel:=h1.swap hsw
  (by
   unfold EntOk
   exact⟨te.size,us++us2,k0,k1,by rw[Xac];exact r2,fun l hl=>(Xag.1 hl).elim (k3 l) (hz l),by
    have:=J3 (QH r3.size _ _ _ k4 hS5) (QH r3.size _ _ _ g6 (by simp))
    simpa using this,fun hd b hb=>hsw.imm (k5 hd b hb),hF6,fun hd=>⟨(k7 hd).1,fun b hb=>⟨((k7 hd).2.1 b hb).1,XaL ((k7 hd).2.1 b hb).2.1 r3.size,fun hq=>by
     rcases r4 b hq with h|h
     ·have:=((k7 hd).2.1 b hb).2.1;omega
     ·exact((k7 hd).2.1 b hb).2.2 h⟩,by
     rw[Xct]
     exact NstL.app (QA (Q4 k4)) ((k7 hd).2.2.same (Q4 k4) hS5) (NstL.nilE (QH r3.size _ _ _ g6 (by simp)))⟩⟩)
  (fun hd z hz hzn hdz b hb=>h1.mem.apart_ne hy hz (fun e=>hzn (e.symm.trans hyn)) (by rw[hya];exact hd) hdz hb)
 unfold Oper.wp
 rw[hrun,Oper.upon_value,hd]
 exact hn _ _ _ hK ⟨_,hrel.put ⟨x',Xaa,rfl,rfl,rfl⟩ ht⟩
theorem zk37{s x:Operand}{T e:TypeId}{es2:List (List D)}{n2:Nat}[te:TI X.P e](ho:o.op=.call { callee:=.builtin .append,args:=#[s,x],argTypes:=#[T,T] })(hd:o.dst=some t)(hT:Ju X T=some e)(hK:K ⟨σ.nt,(t,.row t)::σ.sl,(t,.row e es2 true)::YB t σ.ob⟩)(hs:σ.ev s=.nil:=by exact rfl)(hx:σ.els (σ.ev x)=some es2:=by exact rfl)(hk:Vg te:=by exact⟨rfl,rfl,rfl⟩)(hn2:es2.length=n2:=by first|exact Xah _|exact Qj _|exact QK _|exact Qb _|exact(rfl:_=1)|exact(rfl:_=0)|exact(rfl:_=2)|exact(rfl:_=3)|exact Jc (by omega)|assumption|exact Xak.trans (Xah _)|exact(Xak.trans Xak).trans (Xah _)|rfl)(hz:lenE es2 te.size:=by first|exact QaF rfl|exact Xi (fun _=>rfl)|exact ZN (fun _=>rfl))(hfl:YT es2=true:=by first|rfl|exact QN (fun _=>rfl)|exact QaY (fun _=>rfl))(hb:n2<=1099511627776:=by omega)(hf:Yz X.fre t σ.ob=true:=by exact rfl)(ht:Nat.blt t σ.nt=true:=by exact rfl):OpOk X o σ K:=
 Qbz (ao:=.row e es2 true) hd ht hf (fun a w en h1=>by
  have hu:=QL hT
  obtain⟨q,q1,q2,q3,q4⟩:=te.parts
  obtain⟨A,cap,e1,g1,g2,g3,F,g4⟩:=Zz h1 hx (AS.ev_shows h1 x)
  obtain⟨A',cap',us2,F',e2,g5,g6,_⟩:=QnG g4 hz
  have hF':=Yt g6 (Yd hfl)
  subst hF'
  rw[e1]at e2
  injection e2 with e2 _ e3
  subst e2;subst e3
  have f3:a.eval s=.slice none 0 0:=QP h1 hs
  have hb':0+es2.length<=1099511627776:=by rw[hn2];omega
  obtain⟨v',w',r1,r2,r3,r4⟩:=YM (P:=X.P) 0 T o.type e q te.zero te.size te.bytes hu q1 q2 q3 q4 ((Qg _ _).1 hk.zero) (Jg hk.pos) (.slice none 0 0) 0 [] (World.ownsRow_nil w 0 e te.size) A es2.length cap us2 g5 (ZP g6)
   (by unfold maxLen;omega) (Zw hb' hk.bytes) (Xab _)
  have hr4:∀b,blk v'=some b->w.heap.size<=b:=fun b hb=>(r4 b hb).resolve_right (fun h=>by cases h)
  refine⟨v',[],w',?_,⟨r3.os,r3.tape,r3.output,r3.size,fun b hb=>r3.block b hb (by simp[Value.ownBlock])⟩,fun en' he=>⟨_,he,rfl,rfl,rfl⟩,hr4,fun hI hT=>?_,fun _=>rfl⟩
  ·unfold execOp
   simp only[ho,resolve,invoke,builtin,Sem.run_bind,Sem.run_pure,Result.andThen_ok,Xbr,Xaw,Xbb,f3,e1,r1]
  ·unfold EntOk
   refine⟨te.size,us2,te.sized,Jg hk.pos,by simpa using r2,hz,QH r3.size _ _ _ g6 (by simp),by simp,fun g hg=>.inr (Xao h1.mem.size (hr4 g hg)),fun _=>⟨by simp,by simp,NstL.nilE (QH r3.size _ _ _ g6 (by simp))⟩⟩) hK

theorem zk38{s x:Operand}{T e:TypeId}{p:Nat}{es es2:List (List D)}{dp:Bool}{n1 n2:Nat}[te:TI X.P e](ho:o.op=.call { callee:=.builtin .append,args:=#[s,x],argTypes:=#[T,T] })(hd:o.dst=some t)(hT:Ju X T=some e)(hK:K ⟨σ.nt,(t,.row p)::cutS (notN p) σ.sl,(p,.row e (es++es2) false)::QhB (notN p) p σ.ob⟩)(hs:σ.ev s=.row p:=by exact rfl)(hp:Qm σ.ob p=some (.row e es dp):=by exact rfl)(hx:σ.els (σ.ev x)=some es2:=by exact rfl)(hk:Vg te:=by exact⟨rfl,rfl,rfl⟩)(hn1:es.length=n1:=by first|exact Xah _|exact Qj _|exact QK _|exact Qb _|exact(rfl:_=1)|exact(rfl:_=0)|exact(rfl:_=2)|exact(rfl:_=3)|exact Jc (by omega)|assumption|exact Xak.trans (Xah _)|exact(Xak.trans Xak).trans (Xah _)|rfl)(hn2:es2.length=n2:=by first|exact Xah _|exact Qj _|exact QK _|exact Qb _|exact(rfl:_=1)|exact(rfl:_=0)|exact(rfl:_=2)|exact(rfl:_=3)|exact Jc (by omega)|assumption|exact Xak.trans (Xah _)|exact(Xak.trans Xak).trans (Xah _)|rfl)(hz:lenE es2 te.size:=by first|exact QaF rfl|exact Xi (fun _=>rfl)|exact ZN (fun _=>rfl))(hb:n1+n2<=1099511627776:=by omega)(hlo:X.fre p=true:=by exact rfl)(ht:Nat.blt t σ.nt=true:=by exact rfl)(hI:σ.okI (σ.ev x)=true:=by exact rfl):OpOk X o σ K:=by
 intro a w hr next Q hn
 obtain⟨en,h1⟩:=hr
 have hu:=QL hT
 obtain⟨y,hy,hyn,hya⟩:=h1.ent hp
 have hok:=h1.mem.ok y hy
 unfold EntOk at hok
 rw[hya]at hok
 obtain⟨z,us,k0,k1,k2,k3,k4,k5,k6,k7⟩:=hok
 obtain⟨q,q1,q2,q3,q4⟩:=te.parts
 have hzz:z=te.size:=by rw[te.sized]at k0;simpa using k0.symm
 subst hzz
 obtain⟨A,cap,us2,F',e1,g5,g6,g7⟩:=Qe8 h1 hx hI (AS.ev_shows h1 x) hz
 obtain⟨y',hy',f1,f2,f3⟩:=QP h1 hs
 have:=h1.mem.ent_unique hy' hy (f1.trans hyn.symm)
 subst this
 have hb':es.length+es2.length<=1099511627776:=by rw[hn1,hn2];exact hb
 obtain⟨v',w',r1,r2,r3,r4⟩:=YM (P:=X.P) 0 T o.type e q te.zero te.size te.bytes hu q1 q2 q3 q4 ((Qg _ _).1 hk.zero) k1 y'.val es.length us k2 A es2.length cap us2 g5 (ZP g6)
  (by unfold maxLen;omega) (Zw hb' hk.bytes) (Xab _)
 have hrun:(execOp a.eval o).run X.P w=.ok (.value v') w':=by
  unfold execOp
  simp only[ho,resolve,invoke,builtin,Sem.run_bind,Sem.run_pure,Result.andThen_ok,Xbr,Xaw,Xbb,f3,e1,r1]
 let x':Ent:=⟨p,.row e (es++es2) false,v',y'.fs++F'⟩
 have hsame:∀b,b<w.heap.size->blk y'.val≠some b->Same w w' b:=fun b hb hne=>r3.block b hb (by rw[QfC k2];exact fun e=>hne e.symm)
 have hsw:Qef X.P X.w0 X.Z X.O en w w' p x' (notN p):=
  ⟨h1.mem,fun n hn=>Qjo hn,(fun h=>by rw[VO]at h;cases h),r3.os,r3.tape,r3.output,r3.size,
   fun b hb hno=>hsame b hb (hno y' hy hyn),fun b hb=>by
    rcases hb with hb|⟨hd,hb⟩
    ·exact(r4 b hb).imp id (fun h=>⟨y',hy,hyn,.inl h⟩)
    ·exact Bool.noConfusion hd,rfl,X.Z.lo _ _ hlo⟩
 have hS5:∀b∈y'.fs,Same w w' b:=hsw.same_fs hy hyn k5 (fun hd=>(k7 hd).2.1)
 have hI5:=hsw.imm_fs hy hyn (by rw[hya];rfl) k5 (fun hd=>(k7 hd).2.1) (fun hd b hb hq=>by
  rcases hq with hq|⟨hq,_⟩
  ·rcases r4 b hq with h|h
   ·have:=((k7 hd).2.1 b hb).2.1;omega
   ·exact((k7 hd).2.1 b hb).2.2 h
  ·cases hq)
 have hF6:∀g,blk v'=some g->Frs X.w0 X.O g:=fun g hg=>by
  rcases r4 g hg with h|h
  ·exact .inr (Xao h1.mem.size h)
  ·exact k6 g h
 have hrel:=h1.swap hsw
  (by
   unfold EntOk
   exact⟨te.size,us++us2,k0,k1,by rw[Xac];exact r2,fun l hl=>(Xag.1 hl).elim (k3 l) (hz l),
    J3 (QH r3.size _ _ _ k4 hS5) (QH r3.size _ _ _ g6 (fun b hb=>hsw.same (g7 b hb))),
    fun _ b hb=>(Xag.1 hb).elim (fun h=>hI5 b h) (fun h=>hsw.imm (g7 b h)),hF6,fun h=>by cases h⟩)
  (fun hd=>by cases hd)
 unfold Oper.wp
 rw[hrun,Oper.upon_value,hd]
 exact hn _ _ _ hK ⟨_,hrel.put ⟨x',Xaa,rfl,rfl,rfl⟩ ht⟩
theorem zk39{s x:Operand}{T e:TypeId}{es2:List (List D)}{n2:Nat}[te:TI X.P e](ho:o.op=.call { callee:=.builtin .append,args:=#[s,x],argTypes:=#[T,T] })(hd:o.dst=some t)(hT:Ju X T=some e)(hK:K ⟨σ.nt,(t,.row t)::σ.sl,(t,.row e es2 false)::YB t σ.ob⟩)(hs:σ.ev s=.nil:=by exact rfl)(hx:σ.els (σ.ev x)=some es2:=by exact rfl)(hk:Vg te:=by exact⟨rfl,rfl,rfl⟩)(hn2:es2.length=n2:=by first|exact Xah _|exact Qj _|exact QK _|exact Qb _|exact(rfl:_=1)|exact(rfl:_=0)|exact(rfl:_=2)|exact(rfl:_=3)|exact Jc (by omega)|assumption|exact Xak.trans (Xah _)|exact(Xak.trans Xak).trans (Xah _)|rfl)(hz:lenE es2 te.size:=by first|exact QaF rfl|exact Xi (fun _=>rfl)|exact ZN (fun _=>rfl))(hb:n2<=1099511627776:=by omega)(hf:Yz X.fre t σ.ob=true:=by exact rfl)(ht:Nat.blt t σ.nt=true:=by exact rfl)(hI:σ.okI (σ.ev x)=true:=by exact rfl):OpOk X o σ K:=
 Qbz (ao:=.row e es2 false) hd ht hf (fun a w en h1=>by
  have hu:=QL hT
  obtain⟨q,q1,q2,q3,q4⟩:=te.parts
  obtain⟨A,cap,us2,F',e1,g5,g6,g7⟩:=Qe8 h1 hx hI (AS.ev_shows h1 x) hz
  have f3:a.eval s=.slice none 0 0:=QP h1 hs
  have hb':0+es2.length<=1099511627776:=by rw[hn2];omega
  obtain⟨v',w',r1,r2,r3,r4⟩:=YM (P:=X.P) 0 T o.type e q te.zero te.size te.bytes hu q1 q2 q3 q4 ((Qg _ _).1 hk.zero) (Jg hk.pos) (.slice none 0 0) 0 [] (World.ownsRow_nil w 0 e te.size) A es2.length cap us2 g5 (ZP g6)
   (by unfold maxLen;omega) (Zw hb' hk.bytes) (Xab _)
  have hr4:∀b,blk v'=some b->w.heap.size<=b:=fun b hb=>(r4 b hb).resolve_right (fun h=>by cases h)
  have hx:Ext w w':=⟨r3.os,r3.tape,r3.output,r3.size,fun b hb=>r3.block b hb (by simp[Value.ownBlock])⟩
  refine⟨v',F',w',?_,hx,fun en' he=>⟨_,he,rfl,rfl,rfl⟩,hr4,fun hI hT=>?_,fun h=>by cases h⟩
  ·unfold execOp
   simp only[ho,resolve,invoke,builtin,Sem.run_bind,Sem.run_pure,Result.andThen_ok,Xbr,Xaw,Xbb,f3,e1,r1]
  ·unfold EntOk
   refine⟨te.size,us2,te.sized,Jg hk.pos,by simpa using r2,hz,QH r3.size _ _ _ g6 (fun b hb=>hx.block b (g7 b hb).2.1),fun _ b hb=>hI b (g7 b hb),fun g hg=>.inr (Xao h1.mem.size (hr4 g hg)),fun h=>by cases h⟩) hK
theorem zk40{T e:TypeId}{len:Nat}{parts:Array (Nat×Operand)}{cs:List AV}{ds:List D}{es:List (List D)}[te:TI X.P e](ho:o.op=.buildSlice T len parts)(hd:o.dst=some t)(hT:Ju X T=some e)(hK:K ⟨σ.nt,(t,.row t)::σ.sl,(t,.row e es true)::YB t σ.ob⟩)(hk:Vg te:=by exact⟨rfl,rfl,rfl⟩)(hz1:te.zero.cells.toList.all Value.oneCell'=true:=by exact rfl)(hcs:QiF te.size (QeQ te.zero len) (σ.evParts parts.toList)=some cs:=by exact rfl)(hds:YP cs=some ds:=by exact rfl)(hl:Nat.beq ds.length (len*te.size)=true:=by exact rfl)(hfl:ds.all D.flat1=true:=by exact rfl)(hsm:Nat.ble (len*te.size) 16777216=true:=by exact rfl)(hes:Qc1 (chunk te.size len ds) some=some es:=by exact rfl)(hf:Yz X.fre t σ.ob=true:=by exact rfl)(ht:Nat.blt t σ.nt=true:=by exact rfl):OpOk X o σ K:=
 Qbz (ao:=.row e es true) hd ht hf (fun a w en h1=>by
  rw[Qau]at hes
  injection hes with hes
  subst hes
  have hu:=QL hT
  obtain⟨q,q1,q2,q3,q4⟩:=te.parts
  have hpos:=Jg hk.pos
  have hzc:te.zero.cells.size=te.size:=(Qg _ _).1 hk.zero
  have hmade:((Array.range (len*te.size)).map (te.zero.cells[· % te.zero.cells.size]!)).toList=(List.replicate len te.zero.cells.toList).flatten:=by
   have h0:=VZ te.zero.cells len (by omega)
   rw[show len*te.zero.cells.size=len*te.size by rw[hzc]]at h0
   exact h0
  obtain⟨hp1,hp2⟩:=VH h1 parts.toList
  obtain⟨r,r1,r2,r3⟩:=Qcg (vs:=parts.toList.map fun x=>(x.1,a.eval x.2)) (cells:=(Array.range (len*te.size)).map (te.zero.cells[· % te.zero.cells.size]!)) h1.mem hcs
   (by rw[hmade];exact Xa te.zero len) (by rw[hmade];exact QcH hz1 len) hp1 hp2
  obtain⟨F,k1,k2⟩:=Yn hds r2
  have hlen:ds.length=len*te.size:=(Qg _ _).1 hl
  have hF:F=[]:=Jw k1 (Jd hfl)
  subst hF
  obtain⟨g1,g2,g3⟩:=Qb9 hlen k1
  have hrl:r.toList.length=len*te.size:=by rw[QE r2,Vo hds];exact hlen
  have hmx:len<=16777216:=by
   have:=XaJ hsm
   exact Xao (Xce len hpos) this
  refine⟨.slice (some ⟨w.heap.size,0,none⟩) len len,[],w.alloc (.cells r e),?_,Ext.alloc_ w _,fun en' he=>⟨_,he,rfl,rfl,rfl⟩,fun b hb=>?_,fun hI hTr=>?_,fun _=>rfl⟩
  ·have hmp:parts.map (fun(x:Nat×Operand)=>(x.1,a.eval x.2))=(parts.toList.map fun x=>(x.1,a.eval x.2)).toArray:=by cases parts;simp
   have hsm':¬(len*te.size>2 ^ 24):=by have:=XaJ hsm;omega
   have hrun:(Instr.buildSlice T len (parts.map fun(x:Nat×Operand)=>(x.1,a.eval x.2))).run X.P w=.ok (.slice (some ⟨w.heap.size,0,none⟩) len len) (w.alloc (.cells r e)):=by
    rw[hmp]
    by_cases h0:len*te.size=0
    ·have hl0:len=0:=by
      rcases Nat.mul_eq_zero.1 h0 with h|h
      ·exact h
      ·omega
     subst hl0
     have e1:((Array.range (0*te.size)).map (te.zero.cells[· % te.zero.cells.size]!))=(#[]:Array Value):=by simp
     rw[e1]at r1
     simp[Instr.buildSlice,run_underlying hu,sizeOf,typeInfo,q1,q3,r1,newRow,Array.range_zero']
    ·exact run_buildSlice w T e len _ r q te.zero hu q1 q2 (by rw[q3];exact hsm') (by rw[q3];exact h0) (by rw[q3];exact r1)
   simp only[execOp,ho,Sem.run_bind,hrun,Result.andThen]
   rfl
  ·simp only[blk,Xal]at hb
   exact XbR hb
  ·unfold EntOk
   refine⟨te.size,r.toList,te.sized,hpos,?_,g2,QH (Ext.alloc_ w _).size _ _ _ g1 (by simp),by simp,fun g hg=>?_,fun _=>⟨by simp,by simp,NstL.nilE (QH (Ext.alloc_ w _).size _ _ _ g1 (by simp))⟩⟩
   ·rw[g3]
    refine⟨hrl,.inr ⟨w.heap.size,len,r,rfl,Xab _,heap_alloc_new w _,Xam _,by unfold maxLen;omega,by rw[<-Xay];exact hrl,by rw[<-hrl];exact Xap⟩⟩
   ·simp only[blk,Xal]at hg
    subst hg
    exact .inr h1.mem.size) hK
theorem zk41{T e:TypeId}{x:Operand}{p i j:Nat}{es:List (List D)}{dp:Bool}{zd:List D}[te:TI X.P e](ho:o.op=.call { callee:=.builtin .clear,args:=#[x],argTypes:=#[T] })(hd:o.dst=none)(hT:Ju X T=some e)(hK:K ⟨σ.nt,σ.sl,(p,.row e (es.take i++(List.replicate (j-i) zd++es.drop j)) dp)::YB p σ.ob⟩)(hx:σ.ev x=.sub p i j:=by exact rfl)(hp:Qm σ.ob p=some (.row e es dp):=by exact rfl)(hk:Vg te:=by exact⟨rfl,rfl,rfl⟩)(hz1:te.zero.cells.toList.all Value.oneCell'=true:=by exact rfl)(hzd:(YP (W0 te.zero)).bind (fun l=>Zi l some)=some zd:=by exact rfl)(hfz:zd.all D.flat1=true:=by exact rfl)(hlz:Nat.beq zd.length te.size=true:=by exact rfl)(hfl:YT es=true:=by first|rfl|exact QN (fun _=>rfl)|exact QaY (fun _=>rfl))(hij:i<j:=by omega):OpOk X o σ K:=Qdl ho hd hT hx hp hk hz1 hzd hfz hlz hfl hij hK
theorem zk42{T e:TypeId}{len:Nat}{parts:Array (Nat×Operand)}{cs:List AV}{ds:List D}{es:List (List D)}[te:TI X.P e](ho:o.op=.buildSlice T len parts)(hd:o.dst=some t)(hT:Ju X T=some e)(hK:K ⟨σ.nt,(t,.row t)::σ.sl,(t,.row e es false)::YB t σ.ob⟩)(hk:Vg te:=by exact⟨rfl,rfl,rfl⟩)(hz1:te.zero.cells.toList.all Value.oneCell'=true:=by exact rfl)(hcs:QiF te.size (QeQ te.zero len) (σ.evParts parts.toList)=some cs:=by exact rfl)(hds:YP cs=some ds:=by exact rfl)(hl:Nat.beq ds.length (len*te.size)=true:=by exact rfl)(hsm:Nat.ble (len*te.size) 16777216=true:=by exact rfl)(hes:Qc1 (chunk te.size len ds) some=some es:=by exact rfl)(hf:Yz X.fre t σ.ob=true:=by exact rfl)(ht:Nat.blt t σ.nt=true:=by exact rfl):OpOk X o σ K:=
 Qbz (ao:=.row e es false) hd ht hf (fun a w en h1=>by
  rw[Qau]at hes
  injection hes with hes
  subst hes
  have hu:=QL hT
  obtain⟨q,q1,q2,q3,q4⟩:=te.parts
  have hpos:=Jg hk.pos
  have hzc:te.zero.cells.size=te.size:=(Qg _ _).1 hk.zero
  have hmade:((Array.range (len*te.size)).map (te.zero.cells[· % te.zero.cells.size]!)).toList=(List.replicate len te.zero.cells.toList).flatten:=by
   have h0:=VZ te.zero.cells len (by omega)
   rw[show len*te.zero.cells.size=len*te.size by rw[hzc]]at h0
   exact h0
  obtain⟨hp1,hp2⟩:=VH h1 parts.toList
  obtain⟨r,r1,r2,r3⟩:=Qcg (vs:=parts.toList.map fun x=>(x.1,a.eval x.2)) (cells:=(Array.range (len*te.size)).map (te.zero.cells[· % te.zero.cells.size]!)) h1.mem hcs
   (by rw[hmade];exact Xa te.zero len) (by rw[hmade];exact QcH hz1 len) hp1 hp2
  obtain⟨F,k1,k2⟩:=Yn hds r2
  have hlen:ds.length=len*te.size:=(Qg _ _).1 hl
  obtain⟨g1,g2,g3⟩:=Qb9 hlen k1
  have hrl:r.toList.length=len*te.size:=by rw[QE r2,Vo hds];exact hlen
  have hmx:len<=16777216:=by
   have:=XaJ hsm
   exact Xao (Xce len hpos) this
  refine⟨.slice (some ⟨w.heap.size,0,none⟩) len len,F,w.alloc (.cells r e),?_,Ext.alloc_ w _,fun en' he=>⟨_,he,rfl,rfl,rfl⟩,fun b hb=>?_,fun hI hTr=>?_,fun h=>by cases h⟩
  ·have hmp:parts.map (fun(x:Nat×Operand)=>(x.1,a.eval x.2))=(parts.toList.map fun x=>(x.1,a.eval x.2)).toArray:=by cases parts;simp
   have hsm':¬(len*te.size>2 ^ 24):=by have:=XaJ hsm;omega
   have hrun:(Instr.buildSlice T len (parts.map fun(x:Nat×Operand)=>(x.1,a.eval x.2))).run X.P w=.ok (.slice (some ⟨w.heap.size,0,none⟩) len len) (w.alloc (.cells r e)):=by
    rw[hmp]
    by_cases h0:len*te.size=0
    ·have hl0:len=0:=by
      rcases Nat.mul_eq_zero.1 h0 with h|h
      ·exact h
      ·omega
     subst hl0
     have e1:((Array.range (0*te.size)).map (te.zero.cells[· % te.zero.cells.size]!))=(#[]:Array Value):=by simp
     rw[e1]at r1
     simp[Instr.buildSlice,run_underlying hu,sizeOf,typeInfo,q1,q3,r1,newRow,Array.range_zero']
    ·exact run_buildSlice w T e len _ r q te.zero hu q1 q2 (by rw[q3];exact hsm') (by rw[q3];exact h0) (by rw[q3];exact r1)
   simp only[execOp,ho,Sem.run_bind,hrun,Result.andThen]
   rfl
  ·simp only[blk,Xal]at hb
   exact XbR hb
  ·unfold EntOk
   refine⟨te.size,r.toList,te.sized,hpos,?_,g2,QH (Ext.alloc_ w _).size _ _ _ g1 (fun b hb=>(Ext.alloc_ w _).block b (k2 b hb).2.1),fun _ b hb=>hI b (k2 b hb),fun g hg=>?_,fun h=>by cases h⟩
   ·rw[g3]
    refine⟨hrl,.inr ⟨w.heap.size,len,r,rfl,Xab _,heap_alloc_new w _,Xam _,by unfold maxLen;omega,by rw[<-Xay];exact hrl,by rw[<-hrl];exact Xap⟩⟩
   ·simp only[blk,Xal]at hg
    subst hg
    exact .inr h1.mem.size) hK
theorem zk43{T e:TypeId}{x y:Operand}{p q:Int}{n:Nat}{zd:List D}[te:TI X.P e](ho:o.op=.makeSlice T x y)(hd:o.dst=some t)(hT:Ju X T=some e)(hK:K ⟨σ.nt,(t,.row t)::σ.sl,(t,.row e (List.replicate n zd) true)::YB t σ.ob⟩)(hx:σ.ev x=.d (.n .i64 p):=by exact rfl)(hp:p=(n:Int):=by first|with_reducible rfl|exact nlit _|exact(Xax (by omega)).symm|rfl)(hy:σ.ev y=.d (.n .i64 q):=by exact rfl)(hq:q=(n:Int):=by first|with_reducible rfl|exact nlit _|exact(Xax (by omega)).symm|rfl)(hb:n<=1099511627776:=by omega)(hk:Vg te:=by exact⟨rfl,rfl,rfl⟩)(hzd:(YP (W0 te.zero)).bind (fun l=>Zi l some)=some zd:=by exact rfl)(hfl:zd.all D.flat1=true:=by exact rfl)(hlz:Nat.beq zd.length te.size=true:=by exact rfl)(hf:Yz X.fre t σ.ob=true:=by exact rfl)(ht:Nat.blt t σ.nt=true:=by exact rfl):OpOk X o σ K:=
 Qbz (ao:=.row e (List.replicate n zd) true) hd ht hf (fun a w en h1=>by
  have hzd:YP (W0 te.zero)=some zd:=by
   cases hz:YP (W0 te.zero) with
   | none=>rw[hz]at hzd;cases hzd
   | some l=>rw[hz,Xbd,ZX]at hzd;exact hzd
  subst hp;subst hq
  have hu:=QL hT
  obtain⟨i,q1,q2,q3,q4⟩:=te.parts
  have hpos:=Jg hk.pos
  have hzc:te.zero.cells.size=te.size:=(Qg _ _).1 hk.zero
  have hmade:=VZ te.zero.cells n (by omega)
  obtain⟨F,⟨e1,_⟩,_⟩:=QP h1 hx
  obtain⟨G,⟨e2,_⟩,_⟩:=QP h1 hy
  obtain⟨F',k1,k2⟩:=Yn (w:=w) (en:=en) (I:=IM X en w) hzd (Yq te.zero.cells.toList)
  have hF:F'=[]:=Jw k1 (Jd hfl)
  subst hF
  have hzl:zd.length=te.size:=(Qg _ _).1 hlz
  have hby:te.bytes<=128:=XaJ hk.bytes
  have hr:=run_make (P:=X.P) w T e i te.zero hu q1 q2 .i64 .i64 n n (by omega) (XcG _) (by
   rw[q4]
   have:te.bytes*n<=128*1099511627776:=Nat.mul_le_mul hby hb
   have h2:((te.bytes*n:Nat):Int)<=281474976710656:=by omega
   rwa [Xcw]at h2) (by omega)
  simp only[XcC]at hr
  refine⟨.slice (some ⟨w.heap.size,0,none⟩) n n,[],w.alloc (.cells (madeCells te.zero.cells (n*i.size)) e),?_,Ext.alloc_ w _,fun en' he=>⟨_,he,rfl,rfl,rfl⟩,fun b hb=>?_,fun hI hTr=>?_,fun _=>rfl⟩
  ·simp only[execOp,ho,e1,e2,Sem.run_bind,hr,Result.andThen]
   rfl
  ·simp only[blk,Xal]at hb
   exact XbR hb
  ·unfold EntOk
   have hl:(madeCells te.zero.cells (n*i.size)).toList=(List.replicate n te.zero.cells.toList).flatten:=by rw[q3,<-hzc];exact hmade
   refine⟨te.size,(List.replicate n te.zero.cells.toList).flatten,te.sized,hpos,?_,fun el hel=>?_,QH (Ext.alloc_ w _).size _ _ _ (Ye k1 n) (by simp),by simp,fun g hg=>?_,fun _=>⟨by simp,by simp,NstL.nilE (QH (Ext.alloc_ w _).size _ _ _ (Ye k1 n) (by simp))⟩⟩
   ·rw[Xbq]
    have hsz:(madeCells te.zero.cells (n*i.size)).size=n*te.size:=by rw[size_madeCells,q3]
    have hsz2:(List.replicate n te.zero.cells.toList).flatten.length=n*te.size:=by rw[<-hl,Xay,hsz]
    refine⟨hsz2,.inr ⟨w.heap.size,n,_,rfl,Xab _,heap_alloc_new w _,Xam _,by unfold maxLen;omega,hsz,?_⟩⟩
    rw[hl,<-hsz2]
    exact Xap
   ·rw[Xbn hel];exact hzl
   ·simp only[blk,Xal]at hg
    subst hg
    exact .inr h1.mem.size) hK

end
section
variable {X:Cx} {σ:AS} {o:Oper} {K:AS->Prop} {Q:Exit->AS->Prop} {t:Nat}
theorem zk44{src dst e:TypeId}{x:Operand}{l:List UInt8}(hK:K (σ.put t (.d (.sl (QG l)))))(ho:o.op=.convert src dst x:=by exact rfl)(hd:o.dst=some t:=by exact rfl)(hs:V8 X src=true:=by exact rfl)(hT:Ju X dst=some e:=by exact rfl)(he:Qp4 X e=true:=by exact rfl)(hx:σ.ev x=.d (.s l):=by exact rfl)(hb:l.length<=9223372036854775807:=by omega)(ht:Nat.blt t σ.nt=true:=by exact rfl):OpOk X o σ K:=
 Qt4 hd ht (fun a w en h=>by
  obtain⟨F,⟨e1,_⟩,_⟩:=QP h hx
  have hr:=run_bytes_of_string (P:=X.P) w src dst e ⟨l.toArray⟩ (Wh hs) (QL hT) (QcS he)
  have hsz:(⟨l.toArray⟩:ByteArray).size=l.length:=by simp[ByteArray.size]
  rw[hsz]at hr
  have hX:Ext w (w.drew.alloc (.cells (bytesRow ⟨l.toArray⟩ (grownCap w l.length 0 e)) e ((bytesRow ⟨l.toArray⟩ (grownCap w l.length 0 e)).size,(bytesRow ⟨l.toArray⟩ (grownCap w l.length 0 e)).size+1))):=(Ext.drew w).trans (Ext.alloc_ w.drew _)
  have hl:(QG l).length=l.length:=by simp[QG]
  have hz:∀q∈QG l,q.length=1:=by
   intro q hq
   unfold QG at hq
   obtain⟨b,_,rfl⟩:=Xad.1 hq
   rfl
  have hcap:l.length<=grownCap w l.length 0 e:=grownCap_ge w l.length 0 e
  have hmax:grownCap w l.length 0 e<=maxLen:=grownCap_le_maxLen w l.length 0 e (by unfold maxLen;omega)
  refine⟨_,_,by simp only[execOp,ho,e1,Sem.run_bind,hr,Result.andThen];rfl,hX,?_⟩
  by_cases h0:l=[]
  ·subst h0
   exact⟨[],⟨_,_,1,[],[],rfl,hcap,hmax,(fun e=>by cases e),hz,⟨rfl,rfl⟩,.inl ⟨rfl,rfl⟩⟩,by simp⟩
  ·refine⟨[w.heap.size],⟨_,_,1,l.map fun b=>.int .u8 (b.toNat:Int),[],by rw[hl],by rw[hl];exact hcap,hmax,(fun e=>by cases e),hz,Xd _ l,.inr ⟨by simpa [QG] using h0,w.heap.size,0,rfl,by simp,rfl,fun j v hj=>?_⟩⟩,fun b hb=>?_⟩
   ·have hjl:j<l.length:=by simpa using (List.getElem?_eq_some_iff.1 hj).1
    rw[XaZ,show w.heap.size=w.drew.heap.size from rfl,World.cell?_alloc_mark,bytesRow_at ⟨l.toArray⟩ _ j (by simpa using hjl),<-hj]
    simp[List.getElem?_eq_getElem hjl]
   ·rw[XaM]at hb
    subst hb
    exact⟨.inr (.inr h.mem.size),by simp,fun x hx hbx=>absurd ((h.mem.ok x hx).lth hbx).1 (Nat.lt_irrefl _)⟩) hK
end
section
variable {X:Cx} {σ:AS} {o:Oper} {K:AS->Prop} {t:Nat}
theorem zk45{T e:TypeId}{x y:Operand}{p i off n:Nat}{es:List (List D)}{dp:Bool}{el ds:List D}{xs:List AV}[ti:TI X.P T](ho:o.op=.store T x y)(hK:K ⟨σ.nt,σ.sl,(p,.row e (es.set i (splice el off ds)) dp)::YB p σ.ob⟩)(hd:o.dst=none:=by exact rfl)(hx:σ.ev x=.pr p i off:=by exact rfl)(hp:Qm σ.ob p=some (.row e es dp):=by exact rfl)(hy:(σ.ev y).cellsV=some xs:=by exact rfl)(hds:YP xs=some ds:=by exact rfl)(hn:es.length=n:=by first|exact Xah _|exact Qj _|exact QK _|exact Qb _|exact(rfl:_=1)|exact(rfl:_=0)|exact(rfl:_=2)|exact(rfl:_=3)|exact Jc (by omega)|assumption|exact Xak.trans (Xah _)|exact(Xak.trans Xak).trans (Xah _)|rfl)(hlt:i<n:=by omega)(hel:es[i]?=some el:=by first|exact Z5 (by omega)|rfl)(hfe:el.all D.flat1=true:=by exact rfl)(hfd:ds.all D.flat1=true:=by exact rfl)(hl:Nat.beq ds.length ti.size=true:=by exact rfl)(hfit:Nat.ble (off+ti.size) el.length=true:=by exact rfl):OpOk X o σ K:=by
 have hdl:ds.length=ti.size:=(Qg _ _).1 hl
 have hfit':off+ti.size<=el.length:=XaJ hfit
 refine QmL (ao':=.row e (es.set i (splice el off ds)) dp) hp hd rfl ?_ rfl (fun a w en z h1 hz hzn hza hok=>?_) hK
 ·simp only[AO.lens,XbJ]
  rw[QU (by omega)]
  refine List.ext_getElem? fun k=>?_
  rw[List.getElem?_set]
  split
  ·rename_i hk
   subst hk
   split
   ·rw[List.getElem?_map,hel];rfl
   ·rename_i hk
    rw[List.getElem?_eq_none (by simpa using hk)]
  ·rfl
 ·unfold EntOk at hok
  rw[hza]at hok
  obtain⟨s,us,k0,k1,k2,k3,k4,k5,k6,k7⟩:=hok
  obtain⟨z',hz',e1,e2,g',s',e3,e4,e5,e6⟩:=QP h1 hx
  have:=h1.mem.ent_unique hz' hz (e1.trans hzn.symm)
  subst this
  rw[hza]at e4 e5
  have hsl:s'=s:=by
   have:=e4 el.length (Xad.2 ⟨el,List.mem_of_getElem? hel,rfl⟩)
   rw[<-this,k3 el (List.mem_of_getElem? hel)]
  subst hsl
  have hels:el.length=s':=k3 el (List.mem_of_getElem? hel)
  obtain⟨h6,h7⟩:=Yx h1.mem hy (AS.ev_shows h1 y)
  obtain⟨F,g1,g2⟩:=Yn hds h6
  have hF:=Jw g1 (Jd hfd)
  subst hF
  have hcl:(a.eval y).cells.toList.length=ti.size:=by rw[QA g1];exact hdl
  rcases k2.2 with ⟨hv,h0⟩|⟨g,cap,cur,hv,hbg,hg,hnc,hcm,hcs,htake⟩
  ·omega
  ·rw[hv]at e3
   simp only[blk,Xal]at e3
   subst e3
   have hin:i*s'+s'<=es.length*s':=by
    have:(i+1)*s'<=es.length*s':=XaH _ (by omega)
    rwa [XaR,XbS]at this
   have hcap:es.length*s'<=cap*s':=XaH _ hnc
   refine⟨g,(splice cur.toList (i*s'+off) (a.eval y).cells.toList).toArray,by rw[hv];rfl,?_,fun hT hIS=>?_⟩
   ·have h8:=Yv (P:=X.P) (T:=T) (off:=i*s'+off) (v:=a.eval y) hg (by rw[ti.sized,<-Xay,hcl]) (by rw[<-Xay,hcl,hcs];omega) h7
    simp only[execOp,ho,e6,Sem.run_bind,h8,Result.andThen]
    rfl
   ·have hSf:∀cr:Array Value,∀b∈z'.fs,Same w (w.setRow g cr) b:=fun cr b hb=>by
     cases dp with
     | false=>exact setRow_other w g b cr (fun e=>(k5 rfl b hb).2.2 z' hz' (.inl (by rw[hv,<-e];rfl)))
     | true=>exact setRow_other w g b cr (fun e=>((k7 rfl).2.1 b hb).2.2 (by rw[hv,<-e];rfl))
    unfold EntOk
    refine⟨s',splice us (i*s'+off) (a.eval y).cells.toList,k0,k1,?_,fun q hq=>?_,QjE (QH (by simp) _ _ _ k4 (hSf _)) k3 hel (Jd hfe) (W3 (by simp) _ _ _ g1 (by simp)) (by omega),fun hd b hb=>(hIS b (k5 hd b hb)).1,k6,fun hd=>⟨(k7 hd).1,fun b hb=>⟨((k7 hd).2.1 b hb).1,by simpa using ((k7 hd).2.1 b hb).2.1,((k7 hd).2.1 b hb).2.2⟩,NstL.set ((k7 hd).2.2.same (Q4 k4) (hSf _)) k2.1 k3 hel (Jd hfe) (Jd hfd) (by omega) (by omega)⟩⟩
    ·have hul:us.length=es.length*s':=k2.1
     have hul2:i*s'+off+(a.eval y).cells.toList.length<=us.length:=by omega
     have hcl2:cur.toList.length=cap*s':=by rw[Xay];exact hcs
     refine⟨by rw[QU hul2,hul,Xak],.inr ⟨g,cap,_,by rw[hv,Xak],Xab _,setRow_heap w g cur _ e _ hg,by rw[Xak];exact hnc,hcm,?_,?_⟩⟩
     ·simp only[XbB]
      rw[QU (by omega),Xay]
      exact hcs
     ·rw[Xak,<-htake]
      exact V6 (by rw[<-hul];exact hul2)
    ·rcases Xbl hq with hq|rfl
     ·exact k3 q hq
     ·rw[QU (by omega)];exact hels

theorem zk46{T e:TypeId}{x y:Operand}{p i off n:Nat}{es:List (List D)}{dp:Bool}{el ds:List D}{xs:List AV}[ti:TI X.P T](ho:o.op=.store T x y)(hK:K ⟨σ.nt,σ.sl,(p,.row e (es.set i (splice el off ds)) false)::YB p σ.ob⟩)(hd:o.dst=none:=by exact rfl)(hx:σ.ev x=.pr p i off:=by exact rfl)(hp:Qm σ.ob p=some (.row e es dp):=by exact rfl)(hy:(σ.ev y).cellsV=some xs:=by exact rfl)(hds:YP xs=some ds:=by exact rfl)(hn:es.length=n:=by first|exact Xah _|exact Qj _|exact QK _|exact Qb _|exact(rfl:_=1)|exact(rfl:_=0)|exact(rfl:_=2)|exact(rfl:_=3)|exact Jc (by omega)|assumption|exact Xak.trans (Xah _)|exact(Xak.trans Xak).trans (Xah _)|rfl)(hlt:i<n:=by omega)(hel:es[i]?=some el:=by first|exact Z5 (by omega)|rfl)(hl:Nat.beq ds.length ti.size=true:=by exact rfl)(hfit:Nat.ble (off+ti.size) el.length=true:=by exact rfl):OpOk X o σ K:=by
 intro a w hr next Q hn'
 obtain⟨en,h1⟩:=hr
 have hdl:ds.length=ti.size:=(Qg _ _).1 hl
 have hfit':off+ti.size<=el.length:=XaJ hfit
 obtain⟨z,hz,hzn,hza⟩:=h1.ent hp
 have hok:=h1.mem.ok z hz
 unfold EntOk at hok
 rw[hza]at hok
 obtain⟨s,us,k0,k1,k2,k3,k4,k5,k6,k7⟩:=hok
 obtain⟨z',hz',e1,e2,g',s',e3,e4,e5,e6⟩:=QP h1 hx
 have:=h1.mem.ent_unique hz' hz (e1.trans hzn.symm)
 subst this
 rw[hza]at e4 e5
 have hsl:s'=s:=by
  have:=e4 el.length (Xad.2 ⟨el,List.mem_of_getElem? hel,rfl⟩)
  rw[<-this,k3 el (List.mem_of_getElem? hel)]
 subst hsl
 have hels:el.length=s':=k3 el (List.mem_of_getElem? hel)
 obtain⟨h6,h7⟩:=Yx h1.mem hy (AS.ev_shows h1 y)
 obtain⟨F,g1,g2⟩:=Yn hds h6
 have hcl:(a.eval y).cells.toList.length=ti.size:=by rw[QA g1];exact hdl
 obtain⟨G,gg1,gg2⟩:=Qid k4 k3 hel g1 (off:=off) (by omega)
 rcases k2.2 with ⟨hv,h0⟩|⟨g,cap,cur,hv,hbg,hg,hnc,hcm,hcs,htake⟩
 ·omega
 ·rw[hv]at e3
  simp only[blk,Xal]at e3
  subst e3
  have hin:i*s'+s'<=es.length*s':=by
   have:(i+1)*s'<=es.length*s':=XaH _ (by omega)
   rwa [XaR,XbS]at this
  have hcap:es.length*s'<=cap*s':=XaH _ hnc
  let nc:Array Value:=(splice cur.toList (i*s'+off) (a.eval y).cells.toList).toArray
  have hrun:(execOp a.eval o).run X.P w=.ok .skip (w.setRow g nc):=by
   have h8:=Yv (P:=X.P) (T:=T) (off:=i*s'+off) (v:=a.eval y) hg (by rw[ti.sized,<-Xay,hcl]) (by rw[<-Xay,hcl,hcs];omega) h7
   simp only[execOp,ho,e6,Sem.run_bind,h8,Result.andThen]
   rfl
  have hb1:blk z'.val=some g:=by rw[hv];rfl
  let x':Ent:=⟨p,.row e (es.set i (splice el off ds)) false,z'.val,G⟩
  have hlen:(AO.row e (es.set i (splice el off ds)) false).lens=(AO.row e es dp).lens:=Qj8 hel (QU (by omega))
  have hs:Qef X.P X.w0 X.Z X.O en w (w.setRow g nc) p x' (fun _=>true):=
   ⟨h1.mem,fun _ _=>rfl,fun _ x hx e=>by
     have:=h1.mem.ent_unique hx hz' (e.trans e1.symm)
     subst this
     exact⟨e.symm,rfl,by rw[hza];rfl,by rw[hza];exact hlen⟩,rfl,rfl,rfl,by simp,
    fun b hb hno=>setRow_other w g b nc (fun e=>hno z' hz' e1 (e▸hb1)),fun b hb=>.inr ⟨z',hz',e1,by
     rcases hb with hb|⟨hd,_⟩
     ·exact .inl hb
     ·cases hd⟩,rfl,e1▸h1.mem.fix z' hz'⟩
  have hGS:∀b∈G,Same w (w.setRow g nc) b:=fun b hb=>(gg2 b hb).elim (hs.same_fs hz' e1 k5 (fun hd=>(k7 hd).2.1) b) (fun h=>hs.same (g2 b h))
  have hGI:=fun(b:Nat)(hb:b∈G)=>(gg2 b hb).elim (hs.imm_fs hz' e1 (by rw[hza];rfl) k5 (fun hd=>(k7 hd).2.1) (fun hd b hb hq=>by
   rcases hq with hq|⟨hq,_⟩
   ·exact((k7 hd).2.1 b hb).2.2 hq
   ·cases hq) b) (fun h=>hs.imm (g2 b h))
  have h9:=h1.swap_keep hs (by
   unfold EntOk
   refine⟨s',splice us (i*s'+off) (a.eval y).cells.toList,k0,k1,?_,fun q hq=>?_,QH (by simp) _ _ _ gg1 hGS,fun _ b hb=>hGI b hb,k6,fun h=>by cases h⟩
   ·have hul:us.length=es.length*s':=k2.1
    have hul2:i*s'+off+(a.eval y).cells.toList.length<=us.length:=by omega
    have hcl2:cur.toList.length=cap*s':=by rw[Xay];exact hcs
    refine⟨by rw[QU hul2,hul,Xak],.inr ⟨g,cap,_,by rw[hv,Xak],Xab _,setRow_heap w g cur nc e _ hg,by rw[Xak];exact hnc,hcm,?_,?_⟩⟩
    ·simp only[nc,XbB]
     rw[QU (by omega),Xay]
     exact hcs
    ·rw[Xak,<-htake]
     exact V6 (by rw[<-hul];exact hul2)
   ·rcases Xbl hq with hq|rfl
    ·exact k3 q hq
    ·rw[QU (by omega)];exact hels) (fun hd=>by cases hd)
  unfold Oper.wp
  rw[hrun,Oper.upon_skip,hd]
  exact hn' _ _ _ hK ⟨_,h9⟩
end
section
variable {X:Cx} {σ:AS} {o:Oper} {K:AS->Prop} {Q:Exit->AS->Prop} {t:Nat}
end
section
variable {X:Cx} {σ:AS} {o:Oper} {K:AS->Prop} {t:Nat} {p q:Int} {xt yt:TypeId} {x y:Operand}
end
section
variable {X:Cx} {σ:AS} {o:Oper} {K:AS->Prop} {t:Nat}
theorem kc{f:FuncId}{as:Array Operand}{ats:Array TypeId}{xs rs:List AV}{rob:List (Nat×AO)}(hc:ACalls X.P f xs rs rob)(ho:o.op=.call { callee:=.value (.func f),args:=as,argTypes:=ats })(hx:σ.snaps as.toList=some xs)(hK:K ⟨σ.nt,(t,(one rs).shift t)::σ.sl,Wr t rob++σ.ob⟩)(hd:o.dst=some t:=by exact rfl)(hf:QcI X.fre t σ.ob rob=true:=by exact rfl)(ht:Nat.blt t σ.nt=true:=by exact rfl):OpOk X o σ K:=QoL hc ho hd hx hf ht hK
theorem kq{f:FuncId}{as:Array Operand}{ats:Array TypeId}{xs rs:List AV}(hc:ACalls X.P f xs rs [])(ho:o.op=.call { callee:=.value (.func f),args:=as,argTypes:=ats })(hx:σ.snaps as.toList=some xs)(hK:K (σ.put t (one rs)))(hd:o.dst=some t:=by exact rfl)(hr:(one rs).rigid=true:=by exact rfl)(ht:Nat.blt t σ.nt=true:=by exact rfl):QOk X o σ K:=by
 intro a w hrel
 obtain⟨en,h1⟩:=hrel
 refine⟨(one rs).val,fun w' hw'=>?_,σ.put t (one rs),hK,en,by rw[hd];exact h1.put (AV.rigid_shows _ hr) ht⟩
 obtain⟨h2,h3⟩:=hc w' _ (Zf (h1.ext hw') hx)
 unfold Oper.quietAt
 rw[Y5 ho,h2]
 refine⟨rfl,h3.mono fun e w'' ⟨v,er,he,m,hk,hs⟩=>⟨?_,hw'.trans (Qbk m)⟩⟩
 rw[he,AV.rigid_val _ _ hr hs]

theorem kv{f:FuncId}{x:Operand}{cs ys:List AV}{as:Array Operand}{ats:Array TypeId}{xs zs rs:List AV}{rob:List (Nat×AO)}(hc:ACalls X.P f zs rs rob)(ho:o.op=.call { callee:=.value x,args:=as,argTypes:=ats })(hv:σ.ev x=.clo f cs)(hy:QhY σ.ob cs=some ys)(hx:σ.snaps as.toList=some xs)(hz:xs++ys=zs)(hK:K ⟨σ.nt,(t,(one rs).shift t)::σ.sl,Wr t rob++σ.ob⟩)(hd:o.dst=some t:=by exact rfl)(hf:QcI X.fre t σ.ob rob=true:=by exact rfl)(ht:Nat.blt t σ.nt=true:=by exact rfl):OpOk X o σ K:=by
 intro a w hr next Q hn
 subst hz
 obtain⟨en,h1⟩:=hr
 obtain⟨us,hu,hus⟩:=QP h1 hv
 obtain⟨h2,h3⟩:=hc w _ (J2 (Zf h1 hx) (ZB h1 hy hus))
 unfold Oper.wp
 rw[QbP ho a hu,h2,Oper.upon_enter]
 refine h3.mono fun e w' ⟨v,er,he,m,hk,hr⟩=>?_
 subst he
 rw[hd]
 exact hn _ _ _ hK (h1.merge m hk hr hf ht)
theorem km{ι:Type}{f:FuncId}{as:Array Operand}{ats:Array TypeId}{xs:List AV}{obs:List (Nat×AO)}{ok:ι->Prop}{rs:ι->List AV}{obs' rob:ι->List (Nat×AO)}(ρ:List Nat)(hc:MCalls X.P f xs obs ok rs obs' rob)(ho:o.op=.call { callee:=.value (.func f),args:=as,argTypes:=ats })(hx:σ.handA ρ as.toList=some xs)(hK:∀i,ok i->K ⟨σ.nt,(t,(one (rs i)).mapN (Jv t ρ))::σ.sl,Wr t (rob i)++(Qeh ρ (obs' i)++QhU ρ σ.ob)⟩)(hd:o.dst=some t:=by exact rfl)(hob:σ.handed 1000000 ρ=some obs:=by exact rfl)(hn:YI ρ=true:=by exact rfl)(hf:∀i,ok i->(QbU X.fre t σ.ob (rob i)&&(rob i).all fun y=>fre0 y.1)=true:=by exact fun _ _=>rfl)(ht:Nat.blt t σ.nt=true:=by exact rfl):OpOk X o σ K:=QjV ρ hc ho hd hx hob hn hf ht hK
theorem kw{ι:Type}{f:FuncId}{x:Operand}{cs ys:List AV}{as:Array Operand}{ats:Array TypeId}{xs zs:List AV}{obs:List (Nat×AO)}{ok:ι->Prop}{rs:ι->List AV}{obs' rob:ι->List (Nat×AO)}(ρ:List Nat)(hc:MCalls X.P f zs obs ok rs obs' rob)(ho:o.op=.call { callee:=.value x,args:=as,argTypes:=ats })(hv:σ.ev x=.clo f cs)(hy:Qe5 ρ cs=some ys)(hx:σ.handA ρ as.toList=some xs)(hz:xs++ys=zs)(hK:∀i,ok i->K ⟨σ.nt,(t,(one (rs i)).mapN (Jv t ρ))::σ.sl,Wr t (rob i)++(Qeh ρ (obs' i)++QhU ρ σ.ob)⟩)(hd:o.dst=some t:=by exact rfl)(hob:σ.handed 1000000 ρ=some obs:=by exact rfl)(hn:YI ρ=true:=by exact rfl)(hf:∀i,ok i->(QbU X.fre t σ.ob (rob i)&&(rob i).all fun y=>fre0 y.1)=true:=by exact fun _ _=>rfl)(ht:Nat.blt t σ.nt=true:=by exact rfl):OpOk X o σ K:=
 Qe1 ρ hc (fun a w en h=>by
  subst hz
  obtain⟨us,hu,hus⟩:=QP h hv
  exact⟨_,QbP ho a hu w,fun _ _ hI he=>J2 (XT h hI he hx) (Zg hI he _ _ _ hy hus)⟩) hd hob hn hf ht hK
theorem kn{ι:Type}{f:FuncId}{as:Array Operand}{ats:Array TypeId}{xs:List AV}{obs:List (Nat×AO)}{ok:ι->Prop}{rs:ι->List AV}{fin:ι->List (Nat×AO)}(ρ:List Nat)(hc:NCalls X.P f xs obs ok rs fin)(ho:o.op=.call { callee:=.value (.func f),args:=as,argTypes:=ats })(hx:σ.handNA ρ as.toList=some xs)(hK:∀i,ok i->K ⟨σ.nt,(t,(one (rs i)).mapN (Jv t ρ))::cutS (X5 ρ (fin i)) σ.sl,finO t ρ (fin i)++Ya (inN ρ) (X5 ρ (fin i)) σ.ob⟩)(hd:o.dst=some t:=by exact rfl)(hob:σ.handedN ρ 0 ρ=some obs:=by exact rfl)(hn:YI ρ=true:=by exact rfl)(hno:Wy obs=true:=by exact rfl)(hf:∀i,ok i->Ql3 X.fre t ρ σ.ob (fin i)=true:=by exact fun _ _=>rfl)(ht:Nat.blt t σ.nt=true:=by exact rfl):OpOk X o σ K:=Qj4 ρ hc ho hd hx hob hn hno hf ht hK
end
theorem zqo0{X:Cx}{σ:AS}{o:Oper}{K:AS->Prop}{R:Prop}(k:R)(_h0:Nat.beq (opx o.op) 0=true:=by exact rfl)(h:R->QOk X o σ K:=by intro r;first|exact zk0 r|exact zk1 r|exact zk2 r|exact zk3 r|exact zk4 r|exact zk5 r|exact zk6 r|exact zk10 r|exact zk19 r|exact zk28 QpZ (by kernel_rfl) r|exact zk29 QpZ (by kernel_rfl) r):QOk X o σ K:=h k
theorem zqo1{X:Cx}{σ:AS}{o:Oper}{K:AS->Prop}{R:Prop}(k:R)(_h0:Nat.beq (opx o.op) 8=true:=by exact rfl)(h:R->QOk X o σ K:=by intro r;first|exact zk11 r|exact zk12 (fun _=>r)|exact zk31 r):QOk X o σ K:=h k
theorem zqo2{X:Cx}{σ:AS}{o:Oper}{K:AS->Prop}{R:Prop}(k:R)(_h0:Nat.beq (opx o.op) 3=true:=by exact rfl)(h:R->QOk X o σ K:=by intro r;first|exact zk13 rfl rfl rfl r|exact zk14 r|exact zk32 rfl rfl rfl r):QOk X o σ K:=h k
theorem zqo3{X:Cx}{σ:AS}{o:Oper}{K:AS->Prop}{R:Prop}(k:R)(_h0:Nat.beq (opx o.op) 5=true:=by exact rfl)(h:R->QOk X o σ K:=by intro r;first|exact zk15 r|exact zk16 rfl rfl rfl r|exact zk30 rfl rfl rfl r):QOk X o σ K:=h k
theorem zqo4{X:Cx}{σ:AS}{o:Oper}{K:AS->Prop}{R:Prop}(k:R)(_h0:Nat.beq (opx o.op) 1=true:=by exact rfl)(h:R->QOk X o σ K:=by intro r;first|exact zk17 r|exact zk20 r|exact zk21 r|exact zk22 r):QOk X o σ K:=h k
theorem zqo5{X:Cx}{σ:AS}{o:Oper}{K:AS->Prop}{R:Prop}(k:R)(_h0:Nat.beq (opx o.op) 2=true:=by exact rfl)(h:R->QOk X o σ K:=by intro r;first|exact zk18 r):QOk X o σ K:=h k
theorem zqo6{X:Cx}{σ:AS}{o:Oper}{K:AS->Prop}{R:Prop}(k:R)(_h0:Nat.beq (opx o.op) 6=true:=by exact rfl)(h:R->QOk X o σ K:=by intro r;first|exact zk23 rfl r):QOk X o σ K:=h k
theorem zqo8{X:Cx}{σ:AS}{o:Oper}{K:AS->Prop}{R:Prop}(k:R)(_h0:Nat.beq (opx o.op) 8=true:=by exact rfl)(h:R->QOk X o σ K:=by intro r;first|exact zk26 r):QOk X o σ K:=h k
theorem zqo9{X:Cx}{σ:AS}{o:Oper}{K:AS->Prop}{R:Prop}(k:R)(_h0:Nat.beq (opx o.op) 8=true:=by exact rfl)(h:R->QOk X o σ K:=by intro r;first|exact zk27 r):QOk X o σ K:=h k
theorem zqo10{X:Cx}{σ:AS}{o:Oper}{K:AS->Prop}{R:Prop}(k:R)(_h0:Nat.beq (opx o.op) 4=true:=by exact rfl)(h:R->QOk X o σ K:=by intro r;first|exact zk33 rfl r|exact zk34 rfl r):QOk X o σ K:=h k
theorem zqo{X:Cx}{σ:AS}{o:Oper}{K:AS->Prop}{R:Prop}(k:R)(h:R->QOk X o σ K:=by intro r;first|exact zqo0 r|exact zqo1 r|exact zqo2 r|exact zqo3 r|exact zqo4 r|exact zqo5 r|exact zqo6 r|exact zqo8 r|exact zqo9 r|exact zqo10 r):QOk X o σ K:=h k
theorem zqn0{X:Cx}{σ:AS}{o:Oper}{K:AS->Prop}{R:Prop}(k:R)(_h0:Nat.beq (opx o.op) 0=true:=by exact rfl)(h:R->QOk X o σ K:=by intro r;first|exact zk3 r|exact zk4 r|exact zk5 r|exact zk6 r|exact zk10 r|exact zk19 r|exact zk28 QpZ (by kernel_rfl) r|exact zk29 QpZ (by kernel_rfl) r):QOk X o σ K:=h k
theorem zqn2{X:Cx}{σ:AS}{o:Oper}{K:AS->Prop}{R:Prop}(k:R)(_h0:Nat.beq (opx o.op) 3=true:=by exact rfl)(h:R->QOk X o σ K:=by intro r;first|exact zk13 rfl rfl rfl r|exact zk14 r|exact zk32 rfl rfl rfl r):QOk X o σ K:=h k
theorem zqn6{X:Cx}{σ:AS}{o:Oper}{K:AS->Prop}{R:Prop}(k:R)(_h0:Nat.beq (opx o.op) 6=true:=by exact rfl)(h:R->QOk X o σ K:=by intro r;first|exact zk23 rfl r):QOk X o σ K:=h k
theorem zqn10{X:Cx}{σ:AS}{o:Oper}{K:AS->Prop}{R:Prop}(k:R)(_h0:Nat.beq (opx o.op) 4=true:=by exact rfl)(h:R->QOk X o σ K:=by intro r;first|exact zk33 rfl r|exact zk34 rfl r):QOk X o σ K:=h k
theorem zqn{X:Cx}{σ:AS}{o:Oper}{K:AS->Prop}{R:Prop}(k:R)(h:R->QOk X o σ K:=by intro r;first|exact zqn0 r|exact zqn2 r|exact zqn6 r|exact zqn10 r):QOk X o σ K:=h k
theorem zom0{X:Cx}{σ:AS}{o:Oper}{K:AS->Prop}{R:Prop}(k:R)(_h0:Nat.beq (opx o.op) 8=true:=by exact rfl)(h:R->OpOk X o σ K:=by intro r;first|exact zk35 rfl rfl rfl r|exact zk36 rfl rfl rfl r|exact zk37 rfl rfl rfl r|exact zk38 rfl rfl rfl r|exact zk39 rfl rfl rfl r):OpOk X o σ K:=h k
theorem zom1{X:Cx}{σ:AS}{o:Oper}{K:AS->Prop}{R:Prop}(k:R)(_h0:Nat.beq (opx o.op) 9=true:=by exact rfl)(h:R->OpOk X o σ K:=by intro r;first|exact zk40 rfl rfl rfl r|exact zk42 rfl rfl rfl r):OpOk X o σ K:=h k
theorem zom2{X:Cx}{σ:AS}{o:Oper}{K:AS->Prop}{R:Prop}(k:R)(_h0:Nat.beq (opx o.op) 8=true:=by exact rfl)(h:R->OpOk X o σ K:=by intro r;first|exact zk41 rfl rfl rfl r):OpOk X o σ K:=h k
theorem zom3{X:Cx}{σ:AS}{o:Oper}{K:AS->Prop}{R:Prop}(k:R)(_h0:Nat.beq (opx o.op) 10=true:=by exact rfl)(h:R->OpOk X o σ K:=by intro r;first|exact zk43 rfl rfl rfl r):OpOk X o σ K:=h k
theorem zom4{X:Cx}{σ:AS}{o:Oper}{K:AS->Prop}{R:Prop}(k:R)(_h0:Nat.beq (opx o.op) 1=true:=by exact rfl)(h:R->OpOk X o σ K:=by intro r;first|exact zk44 r):OpOk X o σ K:=h k
theorem zom5{X:Cx}{σ:AS}{o:Oper}{K:AS->Prop}{R:Prop}(k:R)(_h0:Nat.beq (opx o.op) 11=true:=by exact rfl)(h:R->OpOk X o σ K:=by intro r;first|exact zk45 rfl r|exact zk46 rfl r):OpOk X o σ K:=h k
theorem zom{X:Cx}{σ:AS}{o:Oper}{K:AS->Prop}{R:Prop}(k:R)(h:R->OpOk X o σ K:=by intro r;first|exact zom0 r|exact zom1 r|exact zom2 r|exact zom3 r|exact zom4 r|exact zom5 r):OpOk X o σ K:=h k
theorem zopq{X:Cx}{σ:AS}{o:Oper}{K:AS->Prop}{R:Prop}(k:R)(_h0:isQ o.op=true:=by exact rfl)(h:R->QOk X o σ K:=by intro r;exact zqo r):OpOk X o σ K:=(h k).ok
theorem zop{G R:Prop}(k:R)(h:R->G:=by intro r;first|exact zom r|exact zopq r|exact zqo r):G:=h k
theorem zonq{X:Cx}{σ:AS}{o:Oper}{K:AS->Prop}{R:Prop}(k:R)(_h0:isQ o.op=true:=by exact rfl)(h:R->QOk X o σ K:=by intro r;exact zqn r):OpOk X o σ K:=(h k).ok
theorem zon{G R:Prop}(k:R)(h:R->G:=by intro r;first|exact zom r|exact zonq r|exact zqn r):G:=h k
theorem zsd{G R:Prop}(k:R)(h:R->G:=by intro r;first|exact zst r|exact zdr r):G:=h k
theorem zse{G R:Prop}(k:R)(h:R->G:=by intro r;first|exact zsr r|exact zdr r):G:=h k
theorem zqd{C G R:Prop}(c:C)(k:R)(h:C->R->G:=by intro c r;first|exact kc c rfl rfl r|exact kq c rfl rfl r):G:=h c k
theorem zqj{C G R:Prop}(c:C)(k:R)(h:C->R->G:=by intro c r;exact kc c rfl rfl r):G:=h c k
theorem ze2{A B G:Prop}(a:A)(b:B)(h:A->B->G:=by intro r s;first|exact And.intro r s|exact zei r s):G:=h a b
theorem ze3{p:Prop}(h:p:=by first|exact zes|exact ze0):p:=h
theorem ze4{G R:Prop}(k:R)(h:R->G:=by intro r;first|exact zet r|exact ze1 r):G:=h k
theorem ze5{p:Prop}(h:p:=by first|exact rfl|trivial):p:=h
theorem zp{p:Prop}(h:p):Qil p:=⟨h⟩
theorem zpp{p:Prop}(h:p):Qmj p:=⟨h⟩
theorem zln{X:Cx}{σ:AS}{o:Oper}{K:AS->Prop}{p R:Prop}(k:p->R)(h:(p->R)->OpOk X o σ K:=by intro r;exact zgq (zk12 r)):OpOk X o σ K:=h k
theorem zqA{G R:Prop}(k:R)(h:R->G:=by intro r;first|exact kc (by assumption) rfl rfl r|exact kq (by assumption) rfl rfl r):G:=h k
theorem kmu{C G R:Prop}(c:C)(k:R)(h:C->R->G:=by intro c r;exact km [] c rfl rfl (fun _ _=>r)):G:=h c k
structure Zr (R:Prop):Prop where
 go:R
theorem zag{p R:Prop}(k:R)(h:Zr R->p:=by intro r;refine⟨rfl,?_,?_,rfl⟩;(repeat'(first|apply And.intro|exact ze0|refine ze1 ?_|refine zei ?_ ?_|exact rfl|exact True.intro));all_goals first|exact Qil.mk rfl|exact Zr.go r):p:=h ⟨k⟩
theorem zll{p:Prop}(h:p:=by exact⟨rfl,zae,zae,rfl⟩):p:=h
theorem zrr{p:Prop}(h:p:=by exact zr [] zae zae):p:=h
theorem zDR{p:Prop}(h:p:=by(show AWp _ _ _ _);refine QD ?_;apply Qt;exact zm () [] trivial zae zae zae):p:=h
theorem zUco{G R:Prop}(k:R)(h:R->G:=by intro r;first|exact zsc r|exact zop r|exact zqA r):G:=h k
theorem zUcp{G R:Prop}(k:R)(h:R->G:=by intro r;first|exact zsc r|exact zln r|exact zop r|exact zqA r):G:=h k
theorem zUr{G R:Prop}(k:R)(h:R->G:=by intro r;first|exact zsr r):G:=h k
theorem zUrn{G R:Prop}(k:R)(h:R->G:=by intro r;first|exact zsr r|exact zln r|exact zon r|exact zqA r):G:=h k
theorem zUro{G R:Prop}(k:R)(h:R->G:=by intro r;first|exact zsr r|exact zop r|exact zqA r):G:=h k
theorem zUrp{G R:Prop}(k:R)(h:R->G:=by intro r;first|exact zsr r|exact zln r|exact zop r|exact zqA r):G:=h k
theorem zUrd{G R:Prop}(k:R)(h:R->G:=by intro r;first|exact zsr r|exact zdr r|exact Qmj.mk r):G:=h k
theorem Qfn{G R:Prop}(k:R)(h:R->G:=by intro r;first|exact zsr r|exact zdr r|exact Qmj.mk r|exact zln r|exact zon r|exact zqA r):G:=h k
theorem Qvg{G R:Prop}(k:R)(h:R->G:=by intro r;first|exact zsr r|exact zdr r|exact Qmj.mk r|exact zop r|exact zqA r):G:=h k
theorem Q7{G R:Prop}(k:R)(h:R->G:=by intro r;first|exact zsr r|exact zdr r|exact Qmj.mk r|exact zln r|exact zop r|exact zqA r):G:=h k
theorem QpR{G R:Prop}(k:R)(h:R->G:=by intro r;first|exact zsr r|exact zdr r):G:=h k
theorem zUt{G R:Prop}(k:R)(h:R->G:=by intro r;first|exact zst r):G:=h k
theorem zUtn{G R:Prop}(k:R)(h:R->G:=by intro r;first|exact zst r|exact zln r|exact zon r|exact zqA r):G:=h k
theorem zUto{G R:Prop}(k:R)(h:R->G:=by intro r;first|exact zst r|exact zop r|exact zqA r):G:=h k
theorem zUtp{G R:Prop}(k:R)(h:R->G:=by intro r;first|exact zst r|exact zln r|exact zop r|exact zqA r):G:=h k
theorem zUtd{G R:Prop}(k:R)(h:R->G:=by intro r;first|exact zst r|exact zdr r|exact Qmj.mk r):G:=h k
theorem QuS{G R:Prop}(k:R)(h:R->G:=by intro r;first|exact zst r|exact zdr r|exact Qmj.mk r|exact zln r|exact zon r|exact zqA r):G:=h k
theorem Qb2{G R:Prop}(k:R)(h:R->G:=by intro r;first|exact zst r|exact zdr r|exact Qmj.mk r|exact zop r|exact zqA r):G:=h k
theorem Qe{G R:Prop}(k:R)(h:R->G:=by intro r;first|exact zst r|exact zdr r|exact Qmj.mk r|exact zln r|exact zop r|exact zqA r):G:=h k
end
end Go.Proofs.YtihgfennoalocaaGreat
