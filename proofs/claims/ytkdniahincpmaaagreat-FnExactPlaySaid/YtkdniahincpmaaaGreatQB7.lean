/-
  The rules with short names, their side conditions as default tactics (gensh.py writes this text).
-/
import Derived.Test.YtkdniahincpmaaaGreatQB6
set_option maxRecDepth 100000
set_option maxHeartbeats 16000000
namespace Go.Proofs.YtkdniahincpmaaaGreat
open Go Go.RowKit
section

theorem QiZ(b:List UInt8)(j i:Nat):((QC b).take j).drop i=QC ((b.take j).drop i):=by simp[QC,List.map_take,List.map_drop]
theorem YV{X:Cx}{o:Oper}{σ:AS}{K:AS->Prop}(h:OpOk X o σ K):OpOk X o σ K:=h
def isQ:Op->Bool
 | .binOp ..=>true
 | .convert ..=>true
 | .index ..=>true
 | .indexAddr ..=>true
 | .load ..=>true
 | .slice ..=>true
 | .build ..=>true
 | .field ..=>true
 | .call { callee:=.builtin _,.. }=>true
 | _=>false
def opx:Op->Nat
 | .binOp ..=>0
 | .convert ..=>1
 | .index ..=>2
 | .indexAddr ..=>3
 | .load ..=>4
 | .slice ..=>5
 | .build ..=>6
 | .field ..=>7
 | .call { callee:=.builtin _,.. }=>8
 | .buildSlice ..=>9
 | .makeSlice ..=>10
 | .store ..=>11
 | _=>99
structure QaP (p:Prop):Prop where
 go:p
structure HopK (p:Prop):Prop where
 go:p
theorem QwF(p:Prop):HopK p=p:=propext ⟨fun x=>x.go,fun x=>⟨x⟩⟩
structure Sd (p:Prop):Prop where
 go:p
structure Hb (p G:Prop):Prop where
 go:p->G
section
variable {X:Cx} {σ:AS} {Q:Exit->AS->Prop}
theorem Qxf{c:Operand}{x y:Code}{t:Bool}(hc:σ.ev c=.d (.b t))(h1:Hb (t=true) (AWp X x Q σ))(h2:Hb (t=false) (AWp X y Q σ)):AWp X (.cond c x y) Q σ:=QgF hc h1.go h2.go
theorem Qyq{ops:Array Oper}{o:Oper}{l:List Oper}{j d:Nat}{t t':Bool}(hg:o.guard=some (j,t))(hd:(ops[j]?).bind (·.dst)=some d)(hv:look σ.sl d=.d (.b t'))
  (h1:Hb (t'=true) (QM X ops (o::l) Q (σ.put d (.d (.b true))))) (h2:Hb (t'=false) (QM X ops (o::l) Q (σ.put d (.d (.b false))))):QM X ops (o::l) Q σ:=Qnr hg hd hv h1.go h2.go
theorem qs_x{ops:Array Oper}{N:AS->Prop}{o:Oper}{l:List Oper}{j d:Nat}{t t':Bool}(hg:o.guard=some (j,t))(hd:(ops[j]?).bind (·.dst)=some d)(hv:look σ.sl d=.d (.b t'))
  (h1:Hb (t'=true) (QsOk X ops (o::l) N (σ.put d (.d (.b true))))) (h2:Hb (t'=false) (QsOk X ops (o::l) N (σ.put d (.d (.b false))))):QsOk X ops (o::l) N σ:=Qqy hg hd hv h1.go h2.go
theorem ch_x{nt:Nat}{ops:Array Oper}{N:AS->Prop}{o:Oper}{l:List Oper}{acc:List (Nat×List Nat×Lo)}{i j d:Nat}{t t':Bool}(_hg:o.guard=some (j,t))(_hd:(ops[j]?).bind (·.dst)=some d)(hv:look σ.sl d=.d (.b t'))
  (h1:Hb (t'=true) (ChA X nt ops N (o::l) acc i (σ.put d (.d (.b true))))) (h2:Hb (t'=false) (ChA X nt ops N (o::l) acc i (σ.put d (.d (.b false))))):ChA X nt ops N (o::l) acc i σ:=Qss hv h1.go h2.go
theorem zgr{id:Nat}{l:List Oper}{σ':AS}(h:QM X l.toArray l Q σ')(hn:Qaf σ=some σ':=by exact rfl):AWp X (.region id l.toArray false) Q σ:=QkR hn h
theorem zga{ops:Array Oper}{o:Oper}{l:List Oper}{σ':AS}(hK:QM X ops l Q σ')(h:aopG X ops o σ=some σ':=by exact rfl):QM X ops (o::l) Q σ:=Qwi h hK
theorem zgt{c:Operand}{x y:Code}(h1:AWp X x Q σ)(hc:σ.ev c=.d (.b true):=by exact rfl):AWp X (.cond c x y) Q σ:=QmY hc h1
theorem zgf{c:Operand}{x y:Code}(h1:AWp X y Q σ)(hc:σ.ev c=.d (.b false):=by exact rfl):AWp X (.cond c x y) Q σ:=Qns hc h1
theorem zgo{ops:Array Oper}{o:Oper}{l:List Oper}(h:OpOk X o σ (QM X ops l Q))(hg:o.guard=none:=by exact rfl):QM X ops (o::l) Q σ:=Qg5 hg h
theorem zgy{ops:Array Oper}{o:Oper}{l:List Oper}{j d:Nat}{t:Bool}(h:OpOk X o σ (QM X ops l Q))(hg:o.guard=some (j,t):=by exact rfl)(hd:(ops[j]?).bind (·.dst)=some d:=by exact rfl)(hv:look σ.sl d=.d (.b t):=by exact rfl):QM X ops (o::l) Q σ:=Qkb hg hd hv h
theorem zsl{G:Prop}(h:G:=by repeat'(first|apply And.intro|exact Or.inl rfl|exact Or.inr ⟨rfl,rfl⟩|exact trivial)):G:=h
theorem zft{G:Prop}(h:G:=by repeat'(first|apply And.intro|exact trivial)):G:=h
theorem zst{G R:Prop}(k:R)(h:R->G:=by intro r;first|exact QhG r|exact zgr r|exact zga r|exact QkS r|exact zgt r|exact zgf r|exact Qd9 r|exact Qg2 r|exact QgE r|exact Qs r|exact zgo r|exact zgy r):G:=h k
theorem zsr{G R:Prop}(k:R)(h:R->G:=by intro r;first|exact QhG r|exact zgr r|exact zga r|exact QkS r|exact zgt r|exact zgf r|exact Qd9 r|exact Qg2 r|exact QgE r|exact zgo r|exact zgy r):G:=h k
theorem zsc{G R:Prop}(k:R)(h:R->G:=by intro r;first|exact QhG r|exact zgr r|exact zga r|exact QkS r|exact Qd9 r|exact Qg2 r|exact QgE r|exact Qs r|exact zgo r|exact zgy r):G:=h k
theorem zgq{o:Oper}{K:AS->Prop}(h:QOk X o σ K)(_h0:isQ o.op=true:=by exact rfl):OpOk X o σ K:=h.ok
theorem zgc{c:Operand}{x y:Code}{t:Bool}(h1:Hb (t=true) (AWp X x Q σ))(h2:Hb (t=false) (AWp X y Q σ))(hc:σ.ev c=.d (.b t):=by exact rfl):AWp X (.cond c x y) Q σ:=Qxf hc h1 h2
theorem zgx{ops:Array Oper}{o:Oper}{l:List Oper}{j d:Nat}{t t':Bool}(h1:Hb (t'=true) (QM X ops (o::l) Q (σ.put d (.d (.b true)))))(h2:Hb (t'=false) (QM X ops (o::l) Q (σ.put d (.d (.b false)))))(hg:o.guard=some (j,t):=by exact rfl)(hd:(ops[j]?).bind (·.dst)=some d:=by exact rfl)(hv:look σ.sl d=.d (.b t'):=by(fail_if_success exact(rfl:_=AV.d (.b true)));(fail_if_success exact(rfl:_=AV.d (.b false)));exact rfl):QM X ops (o::l) Q σ:=Qyq hg hd hv h1 h2
theorem zqx{ops:Array Oper}{N:AS->Prop}{o:Oper}{l:List Oper}{j d:Nat}{t t':Bool}(h1:Hb (t'=true) (QsOk X ops (o::l) N (σ.put d (.d (.b true)))))(h2:Hb (t'=false) (QsOk X ops (o::l) N (σ.put d (.d (.b false)))))(hg:o.guard=some (j,t):=by exact rfl)(hd:(ops[j]?).bind (·.dst)=some d:=by exact rfl)(hv:look σ.sl d=.d (.b t'):=by(fail_if_success exact(rfl:_=AV.d (.b true)));(fail_if_success exact(rfl:_=AV.d (.b false)));exact rfl):QsOk X ops (o::l) N σ:=qs_x hg hd hv h1 h2
theorem zcx{nt:Nat}{ops:Array Oper}{N:AS->Prop}{o:Oper}{l:List Oper}{acc:List (Nat×List Nat×Lo)}{i j d:Nat}{t t':Bool}(h1:Hb (t'=true) (ChA X nt ops N (o::l) acc i (σ.put d (.d (.b true)))))(h2:Hb (t'=false) (ChA X nt ops N (o::l) acc i (σ.put d (.d (.b false)))))(hg:o.guard=some (j,t):=by exact rfl)(hd:(ops[j]?).bind (·.dst)=some d:=by exact rfl)(hv:look σ.sl d=.d (.b t'):=by(fail_if_success exact(rfl:_=AV.d (.b true)));(fail_if_success exact(rfl:_=AV.d (.b false)));exact rfl):ChA X nt ops N (o::l) acc i σ:=ch_x hg hd hv h1 h2
theorem zcg{G:Prop}(h:G:=by refine⟨rfl,?_,rfl,rfl⟩;first|exact Or.inl ⟨rfl,rfl⟩|exact Or.inr ⟨_,_,_,rfl,rfl,rfl,rfl⟩):G:=h
theorem zchG{nt:Nat}{ops:Array Oper}{N:AS->Prop}{o:Oper}{l:List Oper}{acc:List (Nat×List Nat×Lo)}{i:Nat}{gs rs:List (Nat×AV)}{ro ob' wo:List (Nat×AO)}{ch kl fr:List Nat}{v:AV}
  (h1:σ.nt=nt/\((o.guard=none/\gs=[])\/∃j d t,o.guard=some (j,t)/\(ops[j]?).bind (·.dst)=some d/\look σ.sl d=.d (.b t)/\gs=[(d,.d (.b t))])/\XA σ o=some (rs,ro))
  (hop:QaP (∀(w0:World) (Z:ZV (freS kl ro)) (O:Nat->Prop),OpOk ⟨X.P,w0,freS kl ro,Z,O,X.tt⟩ o ⟨σ.nt,rs,ro⟩ (fun σ'=>HopK (σ'.nt=σ.nt/\Qan (dstV o σ') some=some v/\obsK σ'.ob some=some ob'))))
  {pr:List Nat} {σ':AS}
  (h2:Sd (wofr ro ch ob' [] []=some (wo,fr)/\(AS.closed ⟨σ.nt,rs,ro⟩&&Qgy wo ob' (ro.filter fun y=>Yv kl y.1)&&chkW ob' ro&&chkW ob' wo&&chkM ro fr ob'&&(fr.all X.fre&&kl.all X.fre)&&fr.all fun p=>!hasN p σ.ob)=true/\
   allP (fun y=>Ql wo y.1=some y.2\/(Ql wo y.1=none/\(Ql ro y.1).map (AO.cut (Yv kl))=some y.2)) ob'/\allP (fun y=>QfW y.2) ro/\V8 (Wf o acc) some=some pr/\
   (acc.all fun y=>(pr.any fun k=>Nat.beq k y.1)||ind y.2.2 ⟨gs++rs,ro,fr,o.dst,v,wo,kl⟩)=true/\(o.after.toList.all fun e=>!Region.binds .any e||Nat.blt e.on i)=true/\Qaf (Qfl σ ⟨gs++rs,ro,fr,o.dst,v,wo,kl⟩)=some σ'))
  (hK:ChA X nt ops N l ((i,pr,⟨gs++rs,ro,fr,o.dst,v,wo,kl⟩)::acc) (i+1) σ'):ChA X nt ops N (o::l) acc i σ:=by
 obtain⟨c,w,f⟩:=h1
 obtain⟨g,h,m,n,q,r,s,u⟩:=h2.go
 have a:=fun w0 Z O=>hop.go w0 Z O
 simp only[QwF]at a
 rcases w with ⟨c1,c2⟩|⟨j,d,t,c1,c2,c3,c4⟩
 ·subst c2
  exact Qvw c c1 f a g h m n q r s u hK
 ·subst c4
  exact Qxn c c1 c2 c3 f a g h m n q r s u hK
theorem zch{nt:Nat}{ops:Array Oper}{N:AS->Prop}{o:Oper}{l:List Oper}{acc:List (Nat×List Nat×Lo)}{i:Nat}{gs rs:List (Nat×AV)}{ro ob' wo:List (Nat×AO)}{ch kl fr:List Nat}{v:AV}
  (h1:σ.nt=nt/\((o.guard=none/\gs=[])\/∃j d t,o.guard=some (j,t)/\(ops[j]?).bind (·.dst)=some d/\look σ.sl d=.d (.b t)/\gs=[(d,.d (.b t))])/\XA σ o=some (rs,ro)/\Qyx o rs=some (ch,kl))
  (hop:QaP (∀(w0:World) (Z:ZV (freS kl ro)) (O:Nat->Prop),OpOk ⟨X.P,w0,freS kl ro,Z,O,X.tt⟩ o ⟨σ.nt,rs,ro⟩ (fun σ'=>HopK (σ'.nt=σ.nt/\Qan (dstV o σ') some=some v/\obsK σ'.ob some=some ob'))))
  {pr:List Nat} {σ':AS}
  (h2:Sd (wofr ro ch ob' [] []=some (wo,fr)/\(AS.closed ⟨σ.nt,rs,ro⟩&&Qgy wo ob' (ro.filter fun y=>Yv kl y.1)&&chkW ob' ro&&chkW ob' wo&&chkM ro fr ob'&&(fr.all X.fre&&kl.all X.fre)&&fr.all fun p=>!hasN p σ.ob)=true/\
   allP (fun y=>Ql wo y.1=some y.2\/(Ql wo y.1=none/\(Ql ro y.1).map (AO.cut (Yv kl))=some y.2)) ob'/\allP (fun y=>QfW y.2) ro/\V8 (Wf o acc) some=some pr/\
   (acc.all fun y=>(pr.any fun k=>Nat.beq k y.1)||ind y.2.2 ⟨gs++rs,ro,fr,o.dst,v,wo,kl⟩)=true/\(o.after.toList.all fun e=>!Region.binds .any e||Nat.blt e.on i)=true/\Qaf (Qfl σ ⟨gs++rs,ro,fr,o.dst,v,wo,kl⟩)=some σ'))
  (hK:ChA X nt ops N l ((i,pr,⟨gs++rs,ro,fr,o.dst,v,wo,kl⟩)::acc) (i+1) σ'):ChA X nt ops N (o::l) acc i σ:=zchG ⟨h1.1,h1.2.1,h1.2.2.1⟩ hop h2 hK
theorem zchE{nt:Nat}{ops:Array Oper}{N:AS->Prop}{o:Oper}{l:List Oper}{acc:List (Nat×List Nat×Lo)}{i:Nat}{gs rs:List (Nat×AV)}{ro ob' wo:List (Nat×AO)}{ch kl fr:List Nat}{v:AV}
  (h1:σ.nt=nt/\((o.guard=none/\gs=[])\/∃j d t,o.guard=some (j,t)/\(ops[j]?).bind (·.dst)=some d/\look σ.sl d=.d (.b t)/\gs=[(d,.d (.b t))])/\XA σ o=some (rs,ro)/\tgtE o rs=some (ch,kl))
  (hop:QaP (∀(w0:World) (Z:ZV (freS kl ro)) (O:Nat->Prop),OpOk ⟨X.P,w0,freS kl ro,Z,O,X.tt⟩ o ⟨σ.nt,rs,ro⟩ (fun σ'=>HopK (σ'.nt=σ.nt/\Qan (dstV o σ') some=some v/\obsK σ'.ob some=some ob'))))
  {pr:List Nat} {σ':AS}
  (h2:Sd (wofr ro ch ob' [] []=some (wo,fr)/\(AS.closed ⟨σ.nt,rs,ro⟩&&Qgy wo ob' (ro.filter fun y=>Yv kl y.1)&&chkW ob' ro&&chkW ob' wo&&chkM ro fr ob'&&(fr.all X.fre&&kl.all X.fre)&&fr.all fun p=>!hasN p σ.ob)=true/\
   allP (fun y=>Ql wo y.1=some y.2\/(Ql wo y.1=none/\(Ql ro y.1).map (AO.cut (Yv kl))=some y.2)) ob'/\allP (fun y=>QfW y.2) ro/\V8 (Wf o acc) some=some pr/\
   (acc.all fun y=>(pr.any fun k=>Nat.beq k y.1)||ind y.2.2 ⟨gs++rs,ro,fr,o.dst,v,wo,kl⟩)=true/\(o.after.toList.all fun e=>!Region.binds .any e||Nat.blt e.on i)=true/\Qaf (Qfl σ ⟨gs++rs,ro,fr,o.dst,v,wo,kl⟩)=some σ'))
  (hK:ChA X nt ops N l ((i,pr,⟨gs++rs,ro,fr,o.dst,v,wo,kl⟩)::acc) (i+1) σ'):ChA X nt ops N (o::l) acc i σ:=zchG ⟨h1.1,h1.2.1,h1.2.2.1⟩ hop h2 hK
theorem zhk{G:Prop}(h:G:=by first|exact HopK.mk ⟨rfl,rfl,rfl⟩|exact Sd.mk ⟨rfl,rfl,zsl,zft,rfl,rfl,rfl,rfl⟩):G:=h
theorem zdr{G R:Prop}(k:R)(h:R->G:=by intro r;first|(apply QqD;exact rfl;kernel_rfl;kernel_rfl;exact rfl;exact r)|(apply QoX;exact rfl;kernel_rfl;exact rfl;exact r)|(apply Qwd;exact rfl;exact r)|exact QxM r|(apply Qx9;exact rfl;exact r)|(apply Qyu;(iterate 10 exact rfl);exact r)|(apply QoM;exact rfl;exact r)|(apply Qpv;exact rfl;exact rfl;exact rfl;exact r)|(apply Qlc;exact rfl;exact r)):G:=h k
theorem zg2{G R S:Prop}(a:R)(b:S)(h:R->S->G:=by intro r s;first|exact zgc r s|exact zgx r s):G:=h a b
theorem zg3{G R S:Prop}(a:R)(b:S)(h:R->S->G:=by intro r s;first|exact zcx r s|exact zgc r s|exact zgx r s|exact zqx r s):G:=h a b
theorem zab{G:Prop}(h:G:=by first|omega|exact absurd rfl hb):G:=h
theorem zr{fn:Func}{rs:List AV}{rob:List (Nat×AO)}(ρ:List Nat)(h3:QbY X σ fn.results.toList (renL ρ rs))(h4:Qqz σ ρ 0 rob)(h1:YZ ρ=true:=by exact rfl)(h2:naL ρ.length rs=true:=by exact rfl):QjK (retQ X fn rs rob .ret σ):=⟨Qpb ρ h1 h2 h3 h4⟩
theorem zm{ι:Type}{fn:Func}{ok:ι->Prop}{rs:ι->List AV}{obs' rob:ι->List (Nat×AO)}(i:ι)(ρ:List Nat)(h0:ok i)(h2:QbY X σ fn.results.toList (QcY ρ (rs i)))(h3:Qap σ ρ 0 (rob i))(h4:obLe σ (obs' i))
  (h1:(YZ ρ&&naL2 ρ.length (fun k=>hasN k (obs' i)) (rs i)&&boxB (rob i)&&(ρ.all fre0)&&((rob i).all fun y=>fre0 y.1)&&W4 (obs' i)&&((obs' i).all fun y=>!fre0 y.1))=true:=by exact rfl):QjK (retM X fn ok rs obs' rob .ret σ):=⟨Jk i ρ h0 h1 h2 h3 h4⟩
theorem zn{ι:Type}{fn:Func}{ok:ι->Prop}{rs:ι->List AV}{fin:ι->List (Nat×AO)}(i:ι)(ρ:List Nat)(h0:ok i)(h2:QbY X σ fn.results.toList (Qcd (gamN ρ) (rs i)))(h3:Qm6 σ ρ (fin i))(h1:finB ρ (rs i) (fin i)=true:=by exact rfl):QjK (retN X fn ok rs fin .ret σ):=⟨i,ρ,h0,h1,h2,h3⟩
theorem zd{fn:Func}{rs:Unit->List AV}{obs' rob:Unit->List (Nat×AO)}(ρ:List Nat)(h2:QbY X σ.dena fn.results.toList (QcY ρ (rs ())))(h3:Qap σ.dena ρ 0 (rob ()))(h4:obLe σ.dena (obs' ()))
  (h1:(YZ ρ&&naL2 ρ.length (fun k=>hasN k (obs' ())) (rs ())&&boxB (rob ())&&(ρ.all fre0)&&((rob ()).all fun y=>fre0 y.1)&&W4 (obs' ())&&((obs' ()).all fun y=>!fre0 y.1))=true:=by exact rfl):AWp X .ret (retM X fn (fun _:Unit=>True) rs obs' rob) σ:=QA (Qe3 (Jk () ρ trivial h1 h2 h3 h4))
end
class HbT (p:Prop) (q:outParam Prop):Prop where
 to:p->q
instance (priority:=low) (p:Prop):HbT p p:=⟨id⟩
instance (p:Prop) [Decidable p]:HbT (decide p=true) p:=⟨of_decide_eq_true⟩
instance (p:Prop) [Decidable p]:HbT (decide p=false) (¬p):=⟨of_decide_eq_false⟩
instance {α:Type} [BEq α] [LawfulBEq α] (x y:α):HbT ((x==y)=true) (x=y):=⟨fun h=>beq_iff_eq.1 h⟩
instance {α:Type} [BEq α] [LawfulBEq α] (x y:α):HbT ((x==y)=false) (x≠y):=⟨fun h=>beq_eq_false_iff_ne.1 h⟩
instance {α:Type} [BEq α] [LawfulBEq α] (x y:α):HbT ((x != y)=true) (x≠y):=⟨fun h=>bne_iff_ne.1 h⟩
instance {α:Type} [BEq α] [LawfulBEq α] (x y:α):HbT ((x != y)=false) (x=y):=⟨fun h=>bne_eq_false_iff_eq.1 h⟩
instance (b:Bool):HbT ((!b)=true) (b=false):=⟨fun h=>by cases b with|false=>rfl|true=>cases h⟩
instance (b:Bool):HbT ((!b)=false) (b=true):=⟨fun h=>by cases b with|true=>rfl|false=>cases h⟩
theorem zhm{p q G:Prop}[i:HbT p q](h:q->G):Hb p G:=⟨fun x=>h (i.to x)⟩
theorem zeb{x:AV}{p q:Bool}(h:x=.d (.b p):=by exact rfl)(h2:p=q:=by with_reducible rfl):x=.d (.b q):=by rw[h,h2]
theorem zec{x:AV}{p q:Bool}(h2:QjK (p=q))(h:x=.d (.b p):=by exact rfl):x=.d (.b q):=eq_b h h2
theorem zen{x:AV}{k:IntKind}{p q:Int}(h:x=.d (.n k p):=by exact rfl)(h2:p=q:=by first|with_reducible rfl|omega):x=.d (.n k q):=by rw[h,h2]
theorem zeo{x:AV}{k:IntKind}{p q:Int}(h2:QjK (p=q))(h:x=.d (.n k p):=by exact rfl):x=.d (.n k q):=eq_n h h2
theorem zes{x:AV}{p q:List UInt8}(h:x=.d (.s p):=by exact rfl)(h2:p=q:=by with_reducible rfl):x=.d (.s q):=by rw[h,h2]
theorem zet{x:AV}{p q:List UInt8}(h2:QjK (p=q))(h:x=.d (.s p):=by exact rfl):x=.d (.s q):=eq_s h h2
theorem zel{x:AV}{p q:List (List D)}(h:x=.d (.sl p):=by exact rfl)(h2:p=q:=by with_reducible rfl):x=.d (.sl q):=by rw[h,h2]
theorem zem{x:AV}{p q:List (List D)}(h2:QjK (p=q))(h:x=.d (.sl p):=by exact rfl):x=.d (.sl q):=Qyl h h2
theorem zep{x:Option AO}{e:TypeId}{p q:List (List D)}{d:Bool}(h:x=some (.row e p d):=by exact rfl)(h2:p=q:=by with_reducible rfl):x=some (.row e q d):=by rw[h,h2]
theorem zeq1{x:Option AO}{e:TypeId}{p q:List (List D)}{d:Bool}(h2:QjK (p=q))(h:x=some (.row e p d):=by exact rfl):x=some (.row e q d):=Qxs h h2
theorem zea{x:AV}{p q:List AV}(h2:p=q)(h:x=.agg p:=by exact rfl):x=.agg q:=Qxi h h2
theorem zei{l:List AV}{x y:AV}{p q:List AV}(h1:x=y)(h2:p=q)(h:l=x::p:=by exact rfl):l=y::q:=QvO h h1 h2
theorem zca{X:Cx}{σ:AS}{t:Nat}{T:TypeId}{v:AV}{xs:List AV}[ti:TI X.P T](ha:J5 ti.desc=true:=by exact rfl)(hx:(σ.at (look σ.sl t)).map (List.take ti.size)=some xs:=by exact rfl)(hl:Nat.beq xs.length ti.size=true:=by exact rfl)(hv:AV.agg xs=v):QoQ X σ t T v:=Qtf ha hx hl hv
theorem zex{x:Option AO}{e:TypeId}{p q:List AV}(h2:p=q)(h:x=some (.box e p):=by exact rfl):x=some (.box e q):=Qvr h h2
theorem ze0{p:Prop}(h:p:=by first|exact zeb|exact zen|exact zel|exact zep):p:=h
theorem ze1{G R:Prop}(k:R)(h:R->G:=by intro r;first|exact zec r|exact zeo r|exact zem r|exact zeq1 r|exact zea r|exact zex r|exact zca (hv:=r)):G:=h k
theorem zae{p:Prop}(h:p:=by(repeat'(first|apply And.intro|exact ze0|refine ze1 ?_|refine zei ?_ ?_|exact rfl|trivial));all_goals exact QjK.mk rfl):p:=h
section
variable {X:Cx} {σ:AS} {o:Oper} {K:AS->Prop} {t:Nat} {p q:Int} {m n:Nat} {xt yt:TypeId} {x y:Operand}
theorem zd1{p:Prop}(h:p:=by first|with_reducible rfl|exact nlit _|exact(Xbi (by omega)).symm|rfl):p:=h
theorem zk0(hK:K (σ.put t (.d (.n .i64 ((m+n:Nat):Int)))))(ho:o.op=.binOp .add xt x y yt:=by exact rfl)(hd:o.dst=some t:=by exact rfl)(hx:σ.ev x=.d (.n .i64 p):=by exact rfl)(hp:p=(m:Int):=by exact zd1)(hy:σ.ev y=.d (.n .i64 q):=by exact rfl)(hq:q=(n:Int):=by exact zd1)(hb:m+n<=9223372036854775807:=by omega)(ht:Nat.blt t σ.nt=true:=by exact rfl):QOk X o σ K:=
 Qud ho hd hx hy (by omega) ht (by rw[hp,hq];exact hK)
theorem zk1(hK:K (σ.put t (.d (.n .i64 ((m-n:Nat):Int)))))(ho:o.op=.binOp .sub xt x y yt:=by exact rfl)(hd:o.dst=some t:=by exact rfl)(hx:σ.ev x=.d (.n .i64 p):=by exact rfl)(hp:p=(m:Int):=by exact zd1)(hy:σ.ev y=.d (.n .i64 q):=by exact rfl)(hq:q=(n:Int):=by exact zd1)(hb:n<=m/\m<=9223372036854775807:=by omega)(ht:Nat.blt t σ.nt=true:=by exact rfl):QOk X o σ K:=
 Qun ho hd hx hy (by omega) ht (by rw[show p-q=((m-n:Nat):Int) by omega];exact hK)
theorem zk2(hK:K (σ.put t (.d (.n .i64 ((m*n:Nat):Int)))))(ho:o.op=.binOp .mul xt x y yt:=by exact rfl)(hd:o.dst=some t:=by exact rfl)(hx:σ.ev x=.d (.n .i64 p):=by exact rfl)(hp:p=(m:Int):=by exact zd1)(hy:σ.ev y=.d (.n .i64 q):=by exact rfl)(hq:q=(n:Int):=by exact zd1)(hb:m*n<=9223372036854775807:=by omega)(ht:Nat.blt t σ.nt=true:=by exact rfl):QOk X o σ K:=
 Qw0 ho hd hx hy (by rw[hp,hq,<-XcA];omega) ht (by rw[hp,hq,<-XcA];exact hK)
theorem zk3(hK:K (σ.put t (.d (.n .i64 ((m / n:Nat):Int)))))(ho:o.op=.binOp .quo xt x y yt:=by exact rfl)(hd:o.dst=some t:=by exact rfl)(hx:σ.ev x=.d (.n .i64 p):=by exact rfl)(hp:p=(m:Int):=by exact zd1)(hy:σ.ev y=.d (.n .i64 q):=by exact rfl)(hq:q=(n:Int):=by exact zd1)(hb:0<n/\m<=9223372036854775807:=by omega)(ht:Nat.blt t σ.nt=true:=by exact rfl):QOk X o σ K:=
 Qw5 ho hd hx hy (by omega) ht (by rw[hp,hq,<-Int.natCast_ediv];exact hK)
theorem zk4(hK:K (σ.put t (.d (.n .i64 ((m % n:Nat):Int)))))(ho:o.op=.binOp .rem xt x y yt:=by exact rfl)(hd:o.dst=some t:=by exact rfl)(hx:σ.ev x=.d (.n .i64 p):=by exact rfl)(hp:p=(m:Int):=by exact zd1)(hy:σ.ev y=.d (.n .i64 q):=by exact rfl)(hq:q=(n:Int):=by exact zd1)(hb:0<n:=by omega)(ht:Nat.blt t σ.nt=true:=by exact rfl):QOk X o σ K:=
 QwT ho hd hx hy (by omega) ht (by rw[hp,hq,<-Int.natCast_emod];exact hK)
end
section
variable {X:Cx} {σ:AS} {o:Oper} {K:AS->Prop} {t:Nat} {p q:Int} {xt yt:TypeId} {x y:Operand}
theorem zk5(hK:K (σ.put t (.d (.n .i64 (p+q)))))(ho:o.op=.binOp .add xt x y yt:=by exact rfl)(hd:o.dst=some t:=by exact rfl)(hx:σ.ev x=.d (.n .i64 p):=by exact rfl)(hy:σ.ev y=.d (.n .i64 q):=by exact rfl)(hb : -9223372036854775808<=p+q/\p+q<=9223372036854775807:=by omega)(ht:Nat.blt t σ.nt=true:=by exact rfl):QOk X o σ K:=Qud ho hd hx hy hb ht hK
theorem zk6(hK:K (σ.put t (.d (.n .i64 (p-q)))))(ho:o.op=.binOp .sub xt x y yt:=by exact rfl)(hd:o.dst=some t:=by exact rfl)(hx:σ.ev x=.d (.n .i64 p):=by exact rfl)(hy:σ.ev y=.d (.n .i64 q):=by exact rfl)(hb : -9223372036854775808<=p-q/\p-q<=9223372036854775807:=by omega)(ht:Nat.blt t σ.nt=true:=by exact rfl):QOk X o σ K:=Qun ho hd hx hy hb ht hK
theorem zk10(hK:K (σ.put t (.d (.n .u8 (p-q)))))(ho:o.op=.binOp .sub xt x y yt:=by exact rfl)(hd:o.dst=some t:=by exact rfl)(hx:σ.ev x=.d (.n .u8 p):=by exact rfl)(hy:σ.ev y=.d (.n .u8 q):=by exact rfl)(hb:0<=p-q/\p-q<=255:=by omega)(ht:Nat.blt t σ.nt=true:=by exact rfl):QOk X o σ K:=
 XL ho hd hx hy (by simp only[binI,IntWalk.u8_in _ hb]) ht hK
end
section
variable {X:Cx} {σ:AS} {o:Oper} {K:AS->Prop} {t:Nat}
theorem zk11{x:Operand}{T:TypeId}{l:List UInt8}(hK:K (σ.put t (.d (.n .i64 l.length))))(ho:o.op=.call { callee:=.builtin .len,args:=#[x],argTypes:=#[T] }:=by exact rfl)(hd:o.dst=some t:=by exact rfl)(hT:ZK X T=true:=by exact rfl)(hx:σ.ev x=.d (.s l):=by exact rfl)(ht:Nat.blt t σ.nt=true:=by exact rfl):QOk X o σ K:=
 Jm hd ht (fun a w en h=>by
  have e:=WG hT
  obtain⟨F,⟨b,_⟩,_⟩:=QT h hx
  refine⟨.int .i64 l.length,fun w' _=>?_,[],⟨rfl,rfl⟩,by simp⟩
  have c:=run_len_string (P:=X.P) w' T o.type ⟨l.toArray⟩ e
  simp only[execOp,ho,resolve,Sem.run_bind,Sem.run_pure,Result.andThen,invoke,builtin,Xbu,Xas,Xbj,b,c]
  rfl) hK
theorem zd0{p:Prop}(h:p:=by first|exact Xar _|exact Qu _|exact YP _|exact Qc _|exact(rfl:_=1)|exact(rfl:_=0)|exact(rfl:_=2)|exact(rfl:_=3)|exact Qj6 (by omega)|assumption|exact Xaw.trans (Xar _)|exact(Xaw.trans Xaw).trans (Xar _)|rfl):p:=h
theorem zk12{x:Operand}{T e:TypeId}{es:List (List D)}{n:Nat}(hK:n<=9223372036854775807->K (σ.put t (.d (.n .i64 n))))(ho:o.op=.call { callee:=.builtin .len,args:=#[x],argTypes:=#[T] }:=by exact rfl)(hd:o.dst=some t:=by exact rfl)(hT:JD X T=some e:=by exact rfl)(hx:σ.els (σ.ev x)=some es:=by exact rfl)(hn:es.length=n:=by exact zd0)(ht:Nat.blt t σ.nt=true:=by exact rfl):QOk X o σ K:=fun a w hr=>by
 have l:=QO hT
 have c:=hr
 obtain⟨j,g⟩:=hr
 obtain⟨A,b,f,k,i,_⟩:=Xm g hx (AS.ev_shows g x)
 have hb:n<=9223372036854775807:=by rw[<-hn];unfold maxLen at i;omega
 refine Jm hd ht (fun a w j h=>?_) (hK hb) a w c
 obtain⟨A,b,f,k,i,_⟩:=Xm h hx (AS.ev_shows h x)
 refine⟨.int .i64 n,fun w' _=>?_,[],⟨rfl,rfl⟩,by simp⟩
 simp[execOp,ho,resolve,invoke,builtin,f,Builtin.len_,run_underlying l,goInt,hn,Sem.run_pure]
theorem zd4{p:Prop}(h:p:=by first|exact QcG (by omega)|rfl):p:=h
theorem zk13{T e:TypeId}{x y:Operand}{es:List (List D)}{el:List D}{i:Int}{j n:Nat}[te:TI X.P e](ho:o.op=.indexAddr T x y)(hd:o.dst=some t)(hT:JD X T=some e)(hK:K (σ.put t (.pd el 0)))(hx:σ.ev x=.d (.sl es):=by exact rfl)(hy:σ.ev y=.d (.n .i64 i):=by exact rfl)(hj:i=(j:Int):=by exact zd1)(hn:es.length=n:=by exact zd0)(hlt:j<n:=by first|omega|decide)(hel:es[j]?=some el:=by exact zd4)(hz:Nat.beq el.length te.size=true:=by exact rfl)(ht:Nat.blt t σ.nt=true:=by exact rfl):QOk X o σ K:=Qqk ho hd hT hx hy hj hn hlt hel hz ht hK
theorem zk14{T e:TypeId}{x y:Operand}{p:Nat}{es:List (List D)}{dp:Bool}{i:Int}{j n:Nat}(hK:K (σ.put t (.pr p j 0)))(ho:o.op=.indexAddr T x y:=by exact rfl)(hd:o.dst=some t:=by exact rfl)(hT:JD X T=some e:=by exact rfl)(hx:σ.ev x=.row p:=by exact rfl)(hp:Ql σ.ob p=some (.row e es dp):=by exact rfl)(hy:σ.ev y=.d (.n .i64 i):=by exact rfl)(hj:i=(j:Int):=by exact zd1)(hn:es.length=n:=by exact zd0)(hlt:j<n:=by first|omega|decide)(ht:Nat.blt t σ.nt=true:=by exact rfl):QOk X o σ K:=by
 unfold JD at hT
 split at hT
 ·rename_i ti _
  unfold Qdt at hT
  split at hT
  ·rename_i a
   injection hT with hT
   subst hT
   exact QvQ (ti:=ti) a rfl ho hd hx hp hy (by omega) ht (by rw[show i.toNat=j by omega];exact hK)
  ·cases hT
 ·cases hT
theorem zk15{T:TypeId}{x:Operand}{low high:Option Operand}{l:List UInt8}{i j:Nat}{p q:Int}(hK:K (σ.put t (.d (.s ((l.take j).drop i)))))(ho:o.op=.slice T x low high none:=by exact rfl)(hd:o.dst=some t:=by exact rfl)(hT:ZK X T=true:=by exact rfl)(hx:σ.ev x=.d (.s l):=by exact rfl)(hlo:σ.low low=some p:=by exact rfl)(hi:p=(i:Int):=by exact zd1)(hhi:σ.high l.length high=some q:=by exact rfl)(hj:q=(j:Int):=by exact zd1)(hb:i<=j/\j<=l.length:=by omega)(ht:Nat.blt t σ.nt=true:=by exact rfl):QOk X o σ K:=by
 subst hi;subst hj
 refine Jm hd ht (fun a w en h=>?_) hK
 have g:=WG hT
 obtain⟨F,⟨e,_⟩,_⟩:=QT h hx
 refine⟨.string ⟨((l.take j).drop i).toArray⟩,fun w' _=>?_,[],⟨rfl,rfl⟩,by simp⟩
 have f:=XT (P:=X.P) (w:=w') (isS:=false) (len:=l.length) (cap:=l.length) (Qht h hlo) (Qdk h hhi) hb.1 hb.2
 have c:(⟨l.toArray⟩:ByteArray).extract i j=⟨((l.take j).drop i).toArray⟩:=by
  apply ByteArray.ext
  simp[ByteArray.data_extract,List.drop_take]
 have b:(⟨l.toArray⟩:ByteArray).size=l.length:=by simp[ByteArray.size]
 simp only[execOp,ho,e,Instr.sliceAt,Sem.run_bind,run_underlying g,Instr.slice,Option.isSome_none,XaT,if_false,b,Xcy,f,Sem.run_pure,c,Result.andThen]
theorem zd2{p:Prop}(h:p:=by first|exact Qs7 rfl|exact QmB (fun _=>rfl)|exact QpZ (fun _=>rfl)):p:=h
theorem zk16{T e:TypeId}{x:Operand}{low high:Option Operand}{es:List (List D)}{n i j:Nat}{p q:Int}[te:TI X.P e](ho:o.op=.slice T x low high none)(hd:o.dst=some t)(hT:JD X T=some e)(hK:K (σ.put t (.d (.sl ((es.take j).drop i)))))(hx:σ.ev x=.d (.sl es):=by exact rfl)(hn:es.length=n:=by exact zd0)(hlo:σ.low low=some p:=by exact rfl)(hi:p=(i:Int):=by exact zd1)(hhi:σ.high n high=some q:=by exact rfl)(hj:q=(j:Int):=by exact zd1)(hb:i<=j/\j<=n:=by omega)(hz:lenE es te.size:=by exact zd2)(ht:Nat.blt t σ.nt=true:=by exact rfl):QOk X o σ K:=by
 subst hi;subst hj;subst hn
 refine Jm hd ht (fun a w en h=>?_) hK
 have hu:=QO hT
 obtain⟨F,h1,hI⟩:=QT h hx
 obtain⟨A,cap,z,us,F',h2,h3,h4,h5,h6,h7,g⟩:=h1
 obtain⟨q,y,_,aa,_⟩:=te.parts
 have m:=fun w'=>XT (P:=X.P) (w:=w') (isS:=true) (len:=es.length) (cap:=cap) (Qht h hlo) (Qdk h hhi) hb.1 (Xam hb.2 h3)
 have f:((es.take j).drop i).length=j-i:=by simp;omega
 refine⟨.slice (if cap=i then A else A.map (·.add (i*te.size))) (j-i) (cap-i),fun w' _=>?_,?_⟩
 ·simp only[execOp,ho,h2,Instr.sliceAt,Sem.run_bind,run_underlying hu,Instr.slice,Xcy,m w',sizeOf,typeInfo,run_program,y,aa,Sem.run_pure,Result.andThen]
 ·have s:es=(es.take j).take i++((es.take j).drop i++es.drop j):=by rw[<-Xao,XaK,XaK]
  rw[s]at h7
  obtain⟨u1,ar,F1,F23,rfl,rfl,k1,k2⟩:=Yq h7
  obtain⟨u2,u3,F2,F3,rfl,rfl,u,k4⟩:=Yq k2
  have r:∀x∈(es.take j).drop i,x.length=z:=fun x hx=>h6 x (XaE (XaM hx))
  have ad:u1.length=i*z:=by
   have:=Jh k1 (fun x hx=>h6 x (XaE (XaE hx)))
   rw[this]
   congr 1
   simp;omega
  by_cases l:(es.take j).drop i=[]
  ·have:F2=[]:=by rw[l]at u;exact u.2
   subst this
   refine⟨[],⟨if cap=i then A else A.map (·.add (i*te.size)),cap-i,z,u2,[],by rw[f],by rw[f];omega,by omega,fun e=>?_,r,u,.inl ⟨l,rfl⟩⟩,by simp⟩
   have hA:A=none:=by
    split at e
    ·exact e
    ·simpa using e
   have:=h5 hA
   omega
  ·have am:i<j:=by
    rcases Nat.lt_or_ge i j with h'|h'
    ·exact h'
    ·exact absurd (Xaz (by rw[f];omega)) l
   rcases g with ⟨g,_⟩|⟨g,b,off,rfl,h10,h9,h11⟩
   ·subst g;simp at l
   ·have ae:te.size=z:=by
     obtain⟨x,xs,hx⟩:=List.exists_cons_of_ne_nil g
     rw[<-hz x (by rw[hx];exact Xaa),h6 x (by rw[hx];exact Xaa)]
    rw[if_neg (by omega:¬cap=i),ae]
    simp only[XaW,Yl]
    refine⟨b::F2,⟨_,cap-i,z,u2,F2,by rw[f],by rw[f];omega,by omega,(fun e=>by cases e),r,u,.inr ⟨l,b,off+i*z,rfl,h10,rfl,fun k v hk=>?_⟩⟩,fun c hc=>?_⟩
    ·rw[XbH]
     refine h11 _ _ ?_
     rw[List.getElem?_append_right (by omega),ad,List.getElem?_append_left (by have:=(List.getElem?_eq_some_iff.1 hk).1;omega),<-hk]
     congr 1
     omega
    ·rw[h9]at hI
     rcases Xai.1 hc with rfl|hc
     ·exact hI _ Xaa
     ·exact hI c (Xad _ (Xav _ (Xat _ hc)))
end
section
variable {X:Cx} {σ:AS} {o:Oper} {K:AS->Prop} {Q:Exit->AS->Prop} {t:Nat}
theorem zk17{src dst e:TypeId}{x:Operand}{es:List (List D)}{l:List UInt8}(hK:K (σ.put t (.d (.s l))))(ho:o.op=.convert src dst x:=by exact rfl)(hd:o.dst=some t:=by exact rfl)(hT:JD X src=some e:=by exact rfl)(he:QrY X e=true:=by exact rfl)(hs:ZK X dst=true:=by exact rfl)(hx:σ.els (σ.ev x)=some es:=by exact rfl)(hl:es=QC l:=by first|rfl|exact Qh0 (by omega)|exact QiZ _ _ _)(ht:Nat.blt t σ.nt=true:=by exact rfl):QOk X o σ K:=
 Jm hd ht (fun a w en h=>by
  subst hl
  obtain⟨A,g,m,v,h2,y,F,h4⟩:=Xm h hx (AS.ev_shows h x)
  obtain⟨A',r,z,us,F',k,h5,h6,h7,h8,h9,c⟩:=h4
  rw[m]at k
  injection k with k _ e3
  subst k;subst e3
  have i:(QC l).length=l.length:=by simp[QC]
  have q:=Xy h9
  subst q
  refine⟨.string ⟨l.toArray⟩,fun w' hw'=>?_,[],⟨rfl,rfl⟩,by simp⟩
  cases A with
  | none=>
   have hn:l=[]:=by
    have n:=y rfl
    rw[i]at v
    exact Xaz (by omega)
   subst hn
   have p:=run_convert_bytes_string (P:=X.P) w' src dst e none 0 g (QO hT) (QdR he) (WG hs)
   have u:(Conv.bytesToString (.slice none 0 g)).run X.P w'=.ok (.string ⟨([]:List UInt8).toArray⟩) w':=by simp[Conv.bytesToString];rfl
   simp only[execOp,ho,m,QC,Xbj,XaS,Sem.run_bind,p,u,Result.andThen]
   rfl
  | some ad=>
   have f:∀j (hj:j<l.length),w'.cell? (ad.add j)=some (.int .u8 (l[j].toNat:Int)):=fun j hj=>by
    rcases c with ⟨c,_⟩|⟨c,b,off,e5,n,h12,h13⟩
    ·have:l=[]:=by simpa [QC] using c
     subst this;simp at hj
    ·injection e5 with e5
     subst e5
     rw[Yl]
     refine hw'.cell (h13 j _ ?_)
     simp[List.getElem?_eq_getElem hj]
   have p:=run_convert_bytes_back (P:=X.P) w' src dst e ad g l (QO hT) (QdR he) (WG hs) f
   simp only[execOp,ho,m,i,Sem.run_bind,p,Result.andThen]
   rfl) hK
theorem zk18{T:TypeId}{x y:Operand}{l:List UInt8}{p:Int}{j:Nat}(hK:K (σ.put t (.d (.n .u8 (l.getD j 0).toNat))))(ho:o.op=.index T x y:=by exact rfl)(hd:o.dst=some t:=by exact rfl)(hT:ZK X T=true:=by exact rfl)(hx:σ.ev x=.d (.s l):=by exact rfl)(hy:σ.ev y=.d (.n .i64 p):=by exact rfl)(hj:p=(j:Int):=by exact zd1)(hlt:j<l.length:=by omega)(ht:Nat.blt t σ.nt=true:=by exact rfl):QOk X o σ K:=by
 unfold ZK at hT
 split at hT
 ·rename_i ti _
  unfold Qec at hT
  split at hT
  ·rename_i a
   subst hj
   exact Qyi (ti:=ti) a ho hd hx hy (by omega) ht (by simpa using hK)
  ·cases hT
 ·cases hT
theorem zk19{l r:List UInt8}{xt yt:TypeId}{x y:Operand}(hK:K (σ.put t (.d (.s (l++r)))))(ho:o.op=.binOp .add xt x y yt:=by exact rfl)(hd:o.dst=some t:=by exact rfl)(hx:σ.ev x=.d (.s l):=by exact rfl)(hy:σ.ev y=.d (.s r):=by exact rfl)(hb:l.length+r.length<=9223372036854775807:=by first|omega|(simp only[Xap,XaS];omega)|(simp only[Xab];omega)|(simp only[Xab,Xap,XaS];omega))(ht:Nat.blt t σ.nt=true:=by exact rfl):QOk X o σ K:=QxA ho hd hx hy hb ht hK

theorem zk20{src dst:TypeId}{k:IntKind}{x:Operand}{p:Int}(hK:K (σ.put t (.d (.n .u8 p))))(ho:o.op=.convert src dst x:=by exact rfl)(hd:o.dst=some t:=by exact rfl)(hs:hasT X src=true:=by exact rfl)(hT:intT X dst=some .u8:=by exact rfl)(hx:σ.ev x=.d (.n k p):=by exact rfl)(hb:0<=p/\p<=255:=by omega)(ht:Nat.blt t σ.nt=true:=by exact rfl):QOk X o σ K:=
 Qgl ho hd hs hT hx ht (by rw[IntWalk.u8_in _ hb];exact hK)
end
section
variable {X:Cx} {σ:AS} {o:Oper} {K:AS->Prop} {t:Nat}
theorem zk21{src dst:TypeId}{k:IntKind}{x:Operand}{p:Int}{n:Nat}(hK:K (σ.put t (.d (.n .u8 ((UInt8.ofNat n).toNat:Int)))))(ho:o.op=.convert src dst x:=by exact rfl)(hd:o.dst=some t:=by exact rfl)(hs:hasT X src=true:=by exact rfl)(hT:intT X dst=some .u8:=by exact rfl)(hx:σ.ev x=.d (.n k p):=by exact rfl)(hp:p=(n:Int):=by exact zd1)(ht:Nat.blt t σ.nt=true:=by exact rfl):QOk X o σ K:=
 Qgl ho hd hs hT hx ht (by
  have:IntKind.u8.wrap p=((UInt8.ofNat n).toNat:Int):=by
   subst hp
   simp[IntKind.wrap,IntKind.bits,IntKind.signed]
  rw[this];exact hK)
end
section
variable {X:Cx} {σ:AS} {o:Oper} {K:AS->Prop} {Q:Exit->AS->Prop} {t:Nat}
theorem zk22{src dst:TypeId}{k:IntKind}{x:Operand}{p:Int}(hK:K (σ.put t (.d (.n .i64 p))))(ho:o.op=.convert src dst x:=by exact rfl)(hd:o.dst=some t:=by exact rfl)(hs:hasT X src=true:=by exact rfl)(hT:intT X dst=some .i64:=by exact rfl)(hx:σ.ev x=.d (.n k p):=by exact rfl)(hb : -9223372036854775808<=p/\p<=9223372036854775807:=by omega)(ht:Nat.blt t σ.nt=true:=by exact rfl):QOk X o σ K:=
 Qgl ho hd hs hT hx ht (by rw[IntWalk.i64_in _ hb];exact hK)
end
section
variable {X:Cx} {σ:AS} {o:Oper} {K:AS->Prop} {t:Nat}
theorem zk23{T:TypeId}{parts:Array (Nat×Operand)}{fs:List Field}{pl:List (Nat×Nat)}{cs:List AV}[ti:TI X.P T](ho:o.op=.build T parts)(hK:K (σ.put t (.agg cs)))(hd:o.dst=some t:=by exact rfl)(hfs:Vi ti.desc=some fs:=by exact rfl)(hpl:Qhk X fs=some pl:=by exact rfl)(hcs:Qta pl (VB ti.zero) (σ.evParts parts.toList)=some cs:=by exact rfl)(ht:Nat.blt t σ.nt=true:=by exact rfl):QOk X o σ K:=
 Jm hd ht (fun a w en h=>by
  have f:=ti.und
  unfold Vi at hfs
  split at hfs
  ·rename_i fa b
   injection hfs with hfs
   subst hfs
   rw[b]at f
   obtain⟨i,j,k,_⟩:=ti.parts
   obtain⟨d,e⟩:=ZE h parts.toList
   obtain⟨r,l,m⟩:=Qmd (vs:=parts.toList.map fun x=>(x.1,a.eval x.2)) (cells:=ti.zero.cells) h.mem hcs (YL _) d e
   have hb:X.P.built T (parts.toList.map fun x=>(x.1,a.eval x.2))=some r:=by
    unfold Program.built
    simp only[j,f,k,Qfx hpl,l]
   have c:(parts.map (fun(x:Nat×Operand)=>(x.1,a.eval x.2))).toList=parts.toList.map fun x=>(x.1,a.eval x.2):=by simp
   refine⟨.agg r,fun w' _=>?_,r.toList,by simp,m⟩
   have g:=run_build (P:=X.P) w' T (parts.map (fun(x:Nat×Operand)=>(x.1,a.eval x.2))) r (by rw[c];exact hb)
   simp only[execOp,ho,Sem.run_bind,g,Result.andThen]
   rfl
  ·cases hfs) hK

theorem zk26{x y:Operand}{T1 T2:TypeId}{p q:Int}(hK:K (σ.put t (.d (.n .i64 (min p q)))))(ho:o.op=.call { callee:=.builtin .min,args:=#[x,y],argTypes:=#[T1,T2] }:=by exact rfl)(hd:o.dst=some t:=by exact rfl)(hx:σ.ev x=.d (.n .i64 p):=by exact rfl)(hy:σ.ev y=.d (.n .i64 q):=by exact rfl)(ht:Nat.blt t σ.nt=true:=by exact rfl):QOk X o σ K:=
 Jm hd ht (fun a w en h=>by
  obtain⟨F,⟨b,_⟩,_⟩:=QT h hx
  obtain⟨G,⟨c,_⟩,_⟩:=QT h hy
  refine⟨.int .i64 (min p q),fun w' _=>?_,[],⟨rfl,rfl⟩,by simp⟩
  have e:=run_min_int2 (P:=X.P) w' #[T1,T2] o.type .i64 .i64 p q
  simp only[execOp,ho,resolve,Sem.run_bind,Sem.run_pure,Result.andThen,invoke,builtin,Xbu,Xas,Xbj,b,c,e]
  rw[show(if q<p then q else p)=min p q by split <;> omega]) hK
theorem zk27{x y:Operand}{T1 T2:TypeId}{p q:Int}(hK:K (σ.put t (.d (.n .i64 (max p q)))))(ho:o.op=.call { callee:=.builtin .max,args:=#[x,y],argTypes:=#[T1,T2] }:=by exact rfl)(hd:o.dst=some t:=by exact rfl)(hx:σ.ev x=.d (.n .i64 p):=by exact rfl)(hy:σ.ev y=.d (.n .i64 q):=by exact rfl)(ht:Nat.blt t σ.nt=true:=by exact rfl):QOk X o σ K:=
 Jm hd ht (fun a w en h=>by
  obtain⟨F,⟨b,_⟩,_⟩:=QT h hx
  obtain⟨G,⟨c,_⟩,_⟩:=QT h hy
  refine⟨.int .i64 (max p q),fun w' _=>?_,[],⟨rfl,rfl⟩,by simp⟩
  have e:=run_max_int2 (P:=X.P) w' #[T1,T2] o.type .i64 .i64 p q
  simp only[execOp,ho,resolve,Sem.run_bind,Sem.run_pure,Result.andThen,invoke,builtin,Xbu,Xas,Xbj,b,c,e]
  rw[show(if q>p then q else p)=max p q by split <;> omega]) hK
theorem zk28{T yt:TypeId}{x y:Operand}{xs ys:List AV}{b:Bool}{ti:TI X.P T}{ns:List Nat}(hc:(ns.all fun T=>!X.P.stoodInHeld T)=true)(hg:X.P.eqGuardType X.P.depth T=false)(hK:K (σ.put t (.d (.b b))))(ho:o.op=.binOp .eql T x y yt:=by exact rfl)(hd:o.dst=some t:=by exact rfl)(hx:σ.ev x=.agg xs:=by exact rfl)(hy:σ.ev y=.agg ys:=by exact rfl)(htt:X.tt T=some ti:=by exact rfl)(hst:(Vi ti.desc).isSome=true:=by exact rfl)(hb:eqT X ns 100 T xs ys=some b:=by exact rfl)(ht:Nat.blt t σ.nt=true:=by exact rfl):QOk X o σ K:=
 Jm hd ht (fun a w en h=>by
  obtain⟨g,j,l⟩:=QT h hx
  obtain⟨i,k,m⟩:=QT h hy
  refine⟨.bool b,fun w' _=>?_,[],⟨rfl,rfl⟩,by simp⟩
  obtain⟨e,_⟩:=QpX (w:=w') hc 100 9900 htt hb l m
  obtain⟨fs,c⟩:=XaY.1 hst
  simp only[Qaz,c]at e
  have f:=run_eql_struct (P:=X.P) w' T g.toArray i.toArray
  rw[e]at f
  simp only[execOp,ho,j,k,Sem.run_bind,run_eqGuard_agg w' .eql T x y g.toArray i.toArray hg,Result.andThen_ok,f]
  rfl) hK
theorem zk29{T yt:TypeId}{x y:Operand}{xs ys:List AV}{b:Bool}{ti:TI X.P T}{ns:List Nat}(hc:(ns.all fun T=>!X.P.stoodInHeld T)=true)(hg:X.P.eqGuardType X.P.depth T=false)(hK:K (σ.put t (.d (.b (!b)))))(ho:o.op=.binOp .neq T x y yt:=by exact rfl)(hd:o.dst=some t:=by exact rfl)(hx:σ.ev x=.agg xs:=by exact rfl)(hy:σ.ev y=.agg ys:=by exact rfl)(htt:X.tt T=some ti:=by exact rfl)(hst:(Vi ti.desc).isSome=true:=by exact rfl)(hb:eqT X ns 100 T xs ys=some b:=by exact rfl)(ht:Nat.blt t σ.nt=true:=by exact rfl):QOk X o σ K:=
 Jm hd ht (fun a w en h=>by
  obtain⟨g,j,l⟩:=QT h hx
  obtain⟨i,k,m⟩:=QT h hy
  refine⟨.bool (!b),fun w' _=>?_,[],⟨rfl,rfl⟩,by simp⟩
  obtain⟨e,_⟩:=QpX (w:=w') hc 100 9900 htt hb l m
  obtain⟨fs,c⟩:=XaY.1 hst
  simp only[Qaz,c]at e
  have f:=run_neq_struct (P:=X.P) w' T g.toArray i.toArray
  rw[e]at f
  simp only[execOp,ho,j,k,Sem.run_bind,run_eqGuard_agg w' .neq T x y g.toArray i.toArray hg,Result.andThen_ok,f]
  rfl) hK
theorem zk30{T e:TypeId}{x:Operand}{low high:Option Operand}{p n i j:Nat}{es:List (List D)}{dp:Bool}{u v:Int}[te:TI X.P e](ho:o.op=.slice T x low high none)(hd:o.dst=some t)(hT:JD X T=some e)(hK:K (σ.put t (.sub p i j)))(hx:σ.ev x=.row p:=by exact rfl)(hp:Ql σ.ob p=some (.row e es dp):=by exact rfl)(hn:es.length=n:=by exact zd0)(hlo:σ.low low=some u:=by exact rfl)(hi:u=(i:Int):=by exact zd1)(hhi:σ.high n high=some v:=by exact rfl)(hj:v=(j:Int):=by exact zd1)(hb:i<=j/\j<=n:=by omega)(ht:Nat.blt t σ.nt=true:=by exact rfl):QOk X o σ K:=by
 subst hi;subst hj;subst hn
 refine Jm hd ht (fun a w en h=>?_) hK
 have hu:=QO hT
 obtain⟨y,hy,l,k,A,c,s,g2,g4,g5,g6⟩:=QbP h hp
 obtain⟨y',d,m,z,r⟩:=QT h hx
 have:=h.mem.ent_unique d hy (m.trans l.symm)
 subst this
 obtain⟨q,f,_,g,_⟩:=te.parts
 have b:=fun w'=>XT (P:=X.P) (w:=w') (isS:=true) (len:=es.length) (cap:=c) (Qht h hlo) (Qdk h hhi) hb.1 (Xam hb.2 g2)
 refine⟨subV A c te.size i j,fun w' _=>?_,y',d,m,z,⟨hb.1,by rw[k];simpa [AO.lens] using hb.2⟩,A,_,c,te.size,s,g6,rfl⟩
 rw[s]at r
 simp only[execOp,ho,r,Instr.sliceAt,Sem.run_bind,run_underlying hu,Instr.slice,Xcy,b w',sizeOf,typeInfo,run_program,f,g,Sem.run_pure,Result.andThen]
 rfl
theorem zk31{x:Operand}{T e:TypeId}{p i j:Nat}(hK:K (σ.put t (.d (.n .i64 ((j-i:Nat):Int)))))(ho:o.op=.call { callee:=.builtin .len,args:=#[x],argTypes:=#[T] }:=by exact rfl)(hd:o.dst=some t:=by exact rfl)(hT:JD X T=some e:=by exact rfl)(hx:σ.ev x=.sub p i j:=by exact rfl)(ht:Nat.blt t σ.nt=true:=by exact rfl):QOk X o σ K:=
 Jm hd ht (fun a w en h=>by
  have g:=QO hT
  obtain⟨y,hy,e1,e2,e3,A,n,c,z,e4,e5,b⟩:=QT h hx
  refine⟨.int .i64 ((j-i:Nat):Int),fun w' _=>?_,[],⟨rfl,rfl⟩,by simp⟩
  have f:a.eval x=.slice (if c=i then A else A.map (·.add (i*z))) (j-i) (c-i):=b
  simp[execOp,ho,resolve,invoke,builtin,f,Builtin.len_,run_underlying g,goInt,Sem.run_pure]) hK
theorem zk32{T e:TypeId}{x y:Operand}{p i j k:Nat}{es:List (List D)}{dp:Bool}{q:Int}[te:TI X.P e](ho:o.op=.indexAddr T x y)(hd:o.dst=some t)(hT:JD X T=some e)(hK:K (σ.put t (.pr p (i+k) 0)))(hx:σ.ev x=.sub p i j:=by exact rfl)(hp:Ql σ.ob p=some (.row e es dp):=by exact rfl)(hy:σ.ev y=.d (.n .i64 q):=by exact rfl)(hq:q=(k:Int):=by exact zd1)(hlt:k<j-i:=by omega)(hz:Nat.beq te.size 0=false:=by exact rfl)(ht:Nat.blt t σ.nt=true:=by exact rfl):QOk X o σ K:=
 Jm hd ht (fun a w en h=>by
  subst hq
  have hu:=QO hT
  obtain⟨z,ac,r,ab,A,c,g1,g2,g4,g5,g6⟩:=QbP h hp
  obtain⟨s,f,e1,e2,e3,A',n,c',z0,e4,e5,e6⟩:=QT h hx
  have:=h.mem.ent_unique f ac (e1.trans r.symm)
  subst this
  rw[g1]at e4
  injection e4 with u e8 e9
  subst u;subst e9
  have b:s.ao.lens.length=es.length:=by rw[ab];simp[AO.lens]
  rw[b]at e3
  obtain⟨g,hg⟩:=g5 (by omega)
  subst hg
  have aa:z0=te.size:=by
   have h1:es.length≠0:=by omega
   obtain⟨l,hl⟩:∃l,l∈s.ao.lens:=by
    cases hq:s.ao.lens with
    | nil=>rw[hq]at b;simp at b;omega
    | cons l ls=>exact⟨l,Xaa⟩
   rw[<-e5 l hl,g6 l hl]
  subst aa
  obtain⟨G,⟨ey,_⟩,_⟩:=QT h hy
  obtain⟨qi,v,_,m,_⟩:=te.parts
  have hc:¬c=i:=by omega
  have u:a.eval x=.slice (some ⟨g,0+i*te.size,none⟩) (j-i) (c-i):=by
   rw[e6,subV,if_neg hc,XaW,Yl]
  refine⟨.pointer (some ⟨g,(i+k)*te.size+0,none⟩),fun w' _=>?_,s,f,r,e2,g,te.size,by rw[g1];rfl,g6,by rw[b];omega,rfl⟩
  have as:(0:Int)<=(k:Int)/\(k:Int)<((j-i:Nat):Int):=by omega
  have ag:0+i*te.size+k*te.size=(i+k)*te.size+0:=by rw[XaU];omega
  have f:¬qi.size=0:=by
   rw[m];intro e0
   rw[e0]at hz;cases hz
  simp[execOp,ho,u,ey,Instr.indexAt,asIntOf,run_underlying hu,hlt,sizeOf,typeInfo,v,m,Sem.run_pure,Yl,Nat.add_mul]) hK
theorem zk33{T e:TypeId}{x:Operand}{v:AV}{p i off:Nat}{es:List (List D)}{dp:Bool}{el:List D}[ti:TI X.P T](ho:o.op=.load T x)(hK:K (σ.put t v))(hd:o.dst=some t:=by exact rfl)(hx:σ.ev x=.pr p i off:=by exact rfl)(hp:Ql σ.ob p=some (.row e es dp):=by exact rfl)(hel:es[i]?=some el:=by exact zd4)(hv:((el.drop off).map AV.d)[0]?=some v:=by exact rfl)(ha:J5 ti.desc=false:=by exact rfl)(ht:Nat.blt t σ.nt=true:=by exact rfl)(hfl:(bif dp then el.all D.flat else true)=true:=by exact rfl):QOk X o σ K:=
 QlK ho hd (by rw[Qw7 hx hp hel hfl];exact hv) ha ht hK
theorem zk34{T e:TypeId}{x:Operand}{xs:List AV}{p i off:Nat}{es:List (List D)}{dp:Bool}{el:List D}[ti:TI X.P T](ho:o.op=.load T x)(hK:K (σ.put t (.agg xs)))(hd:o.dst=some t:=by exact rfl)(hx:σ.ev x=.pr p i off:=by exact rfl)(hp:Ql σ.ob p=some (.row e es dp):=by exact rfl)(hel:es[i]?=some el:=by exact zd4)(hv:((el.drop off).map AV.d).take ti.size=xs:=by exact rfl)(hl:Nat.beq xs.length ti.size=true:=by exact rfl)(ha:J5 ti.desc=true:=by exact rfl)(ht:Nat.blt t σ.nt=true:=by exact rfl)(hfl:(bif dp then el.all D.flat else true)=true:=by exact rfl):QOk X o σ K:=
 Qly ho hd (by rw[Qw7 hx hp hel hfl,<-hv];rfl) hl ha ht hK
theorem zk35{s x:Operand}{T S e:TypeId}{p:Nat}{es:List (List D)}{dp:Bool}{l:List UInt8}{n1:Nat}[te:TI X.P e](ho:o.op=.call { callee:=.builtin .append,args:=#[s,x],argTypes:=#[T,S] })(hd:o.dst=some t)(hT:JD X T=some e)(hK:K ⟨σ.nt,(t,.row p)::cutS (notN p) σ.sl,(p,.row e (es++QC l) dp)::Qjx (notN p) p σ.ob⟩)(hS:ZK X S=true:=by exact rfl)(hz0:te.zero=.int .u8 0:=by exact rfl)(hs1:te.size=1:=by exact rfl)(hb1:te.bytes=1:=by exact rfl)(hs:σ.ev s=.row p:=by exact rfl)(hp:Ql σ.ob p=some (.row e es dp):=by exact rfl)(hx:σ.ev x=.d (.s l):=by exact rfl)(hn1:es.length=n1:=by exact zd0)(hb:n1+l.length<=1099511627776:=by omega)(hlo:X.fre p=true:=by exact rfl)(ht:Nat.blt t σ.nt=true:=by exact rfl):OpOk X o σ K:=by
 intro a w hr next Q hn
 obtain⟨en,f⟩:=hr
 have hu:=QO hT
 obtain⟨y,r,c,u⟩:=f.ent hp
 have j:=f.mem.ok y r
 unfold EntOk at j
 rw[u]at j
 obtain⟨z,us,k0,k1,k2,k3,k4,k5,k6,v⟩:=j
 obtain⟨q,q1,q2,q3,q4⟩:=te.parts
 have al:z=1:=by rw[te.sized,hs1]at k0;injection k0 with k0;exact k0.symm
 subst al
 obtain⟨F,⟨e1,_⟩,_⟩:=QT f hx
 obtain⟨y',ak,f1,f2,f3⟩:=QT f hs
 have:=f.mem.ent_unique ak r (f1.trans c.symm)
 subst this
 have ag:(⟨l.toArray⟩:ByteArray).size=l.length:=by simp[ByteArray.size]
 obtain⟨v',w',r1,r2,r3,r4⟩:=Qcq (P:=X.P) T S o.type e q hu (WG hS) q1 (by rw[q2,hz0]) (by rw[q3,hs1]) (by rw[q4,hb1]) y'.val es.length us k2 ⟨l.toArray⟩ (by rw[ag,hn1];exact hb)
 have i:Lib.strCells ⟨l.toArray⟩=l.map fun(b:UInt8)=>Value.int .u8 (b.toNat:Int):=by simp[Lib.strCells]
 rw[ag,i]at r2
 have af:(execOp a.eval o).run X.P w=.ok (.value v') w':=by
  unfold execOp
  simp only[ho,resolve,invoke,builtin,Sem.run_bind,Sem.run_pure,Result.andThen_ok,Xbu,Xas,Xbj,f3,e1,r1]
 let x':Ent:=⟨p,.row e (es++QC l) dp,v',y'.fs⟩
 have k:∀b,b<w.heap.size->blk y'.val≠some b->Same w w' b:=fun b hb hne=>r3.block b hb (by rw[QgU k2];exact fun e=>hne e.symm)
 have m:Qfi X.P X.w0 X.Z X.O en w w' p x' (notN p):=
  ⟨f.mem,fun n hn=>QjT hn,(fun h=>by rw[Zd]at h;cases h),r3.os,r3.tape,r3.output,r3.size,
   fun b hb hno=>k b hb (hno y' r c),fun b hb=>by
    rcases hb with hb|⟨hd,hb⟩
    ·exact(r4 b hb).imp id (fun h=>⟨y',r,c,.inl h⟩)
    ·exact .inr ⟨y',r,c,.inr ⟨by rw[u];exact hd,hb⟩⟩,rfl,X.Z.lo _ _ hlo⟩
 have ad:∀b∈y'.fs,Same w w' b:=m.same_fs r c k5 (fun hd=>(v hd).2.1)
 have ai:∀g,blk v'=some g->Frs X.w0 X.O g:=fun g hg=>by
  rcases r4 g hg with h|h
  ·exact .inr (Xam f.mem.size h)
  ·exact k6 g h
 have ae:=f.swap m
  (by
   unfold EntOk
   exact⟨1,us++l.map fun(b:UInt8)=>Value.int .u8 (b.toNat:Int),k0,k1,by rw[Xab,Qu];exact r2,fun q hq=>(Xag.1 hq).elim (k3 q) (fun h=>by
    unfold QC at h
    obtain⟨b,_,rfl⟩:=Xaf.1 h
    rfl),by
    have:=Yk (QI r3.size _ _ _ k4 ad) (X2 w' l)
    simpa using this,fun hd b hb=>m.imm (k5 hd b hb),ai,fun hd=>⟨(v hd).1,fun b hb=>⟨((v hd).2.1 b hb).1,XaO ((v hd).2.1 b hb).2.1 r3.size,fun hq=>by
     rcases r4 b hq with h|h
     ·have:=((v hd).2.1 b hb).2.1;omega
     ·exact((v hd).2.1 b hb).2.2 h⟩,by
     rw[Xcx]
     exact NstL.app (Qy (Je k4)) ((v hd).2.2.same (Je k4) ad) (NstL.nilE (X2 w' l))⟩⟩)
  (fun hd z hz hzn hdz b hb=>f.mem.apart_ne r hz (fun e=>hzn (e.symm.trans c)) (by rw[u];exact hd) hdz hb)
 unfold Oper.wp
 rw[af,Oper.upon_value,hd]
 exact hn _ _ _ hK ⟨_,ae.put ⟨x',Xaa,rfl,rfl,rfl⟩ ht⟩
theorem zd3{p:Prop}(h:p:=by first|rfl|exact QV (fun _=>rfl)|exact Qn2 (fun _=>rfl)):p:=h
theorem zk36{s x:Operand}{T e:TypeId}{p:Nat}{es es2:List (List D)}{dp:Bool}{n1 n2:Nat}[te:TI X.P e](ho:o.op=.call { callee:=.builtin .append,args:=#[s,x],argTypes:=#[T,T] })(hd:o.dst=some t)(hT:JD X T=some e)(hK:K ⟨σ.nt,(t,.row p)::cutS (notN p) σ.sl,(p,.row e (es++es2) dp)::Qjx (notN p) p σ.ob⟩)(hs:σ.ev s=.row p:=by exact rfl)(hp:Ql σ.ob p=some (.row e es dp):=by exact rfl)(hx:σ.els (σ.ev x)=some es2:=by exact rfl)(hk:VS te:=by exact⟨rfl,rfl,rfl⟩)(hn1:es.length=n1:=by exact zd0)(hn2:es2.length=n2:=by exact zd0)(hz:lenE es2 te.size:=by exact zd2)(hfl:Wg es2=true:=by exact zd3)(hb:n1+n2<=1099511627776:=by omega)(hlo:X.fre p=true:=by exact rfl)(ht:Nat.blt t σ.nt=true:=by exact rfl):OpOk X o σ K:=by
 intro a w hr next Q hn
 obtain⟨en,d⟩:=hr
 have hu:=QO hT
 obtain⟨y,m,c,r⟩:=d.ent hp
 have f:=d.mem.ok y m
 have av:=f
 unfold EntOk at f
 rw[r]at f
 obtain⟨z,us,k0,k1,k2,k3,k4,k5,k6,u⟩:=f
 obtain⟨q,q1,q2,q3,q4⟩:=te.parts
 have an:z=te.size:=by rw[te.sized]at k0;simpa using k0.symm
 subst an
 obtain⟨A,ah,e1,g1,g2,g3,F,g4⟩:=Xm d hx (AS.ev_shows d x)
 obtain⟨A',as,ad,F',e2,g5,g6,_⟩:=QoB g4 hz
 have ai:=YE g6 (Yt hfl)
 subst ai
 rw[e1]at e2
 injection e2 with e2 _ e3
 subst e2;subst e3
 obtain⟨v,am,f1,f2,f3⟩:=QT d hs
 have:=d.mem.ent_unique am m (f1.trans c.symm)
 subst this
 have ak:es.length+es2.length<=1099511627776:=by rw[hn1,hn2];exact hb
 obtain⟨v',w',r1,r2,i,r4⟩:=Y1 (P:=X.P) 0 T o.type e q te.zero te.size te.bytes hu q1 q2 q3 q4 ((Qg _ _).1 hk.zero) k1 v.val es.length us k2 A es2.length ah ad g5 (XM g6)
  (by unfold maxLen;omega) (Xe ak hk.bytes) (Xae _)
 have ac:(execOp a.eval o).run X.P w=.ok (.value v') w':=by
  unfold execOp
  simp only[ho,resolve,invoke,builtin,Sem.run_bind,Sem.run_pure,Result.andThen_ok,Xbu,Xas,Xbj,f3,e1,r1]
 let x':Ent:=⟨p,.row e (es++es2) dp,v',v.fs⟩
 have j:∀b,b<w.heap.size->blk v.val≠some b->Same w w' b:=fun b hb hne=>i.block b hb (by rw[QgU k2];exact fun e=>hne e.symm)
 have k:Qfi X.P X.w0 X.Z X.O en w w' p x' (notN p):=
  ⟨d.mem,fun n hn=>QjT hn,(fun h=>by rw[Zd]at h;cases h),i.os,i.tape,i.output,i.size,
   fun b hb hno=>j b hb (hno v m c),fun b hb=>by
    rcases hb with hb|⟨hd,hb⟩
    ·exact(r4 b hb).imp id (fun h=>⟨v,m,c,.inl h⟩)
    ·exact .inr ⟨v,m,c,.inr ⟨by rw[r];exact hd,hb⟩⟩,rfl,X.Z.lo _ _ hlo⟩
 have aa:∀b∈v.fs,Same w w' b:=k.same_fs m c k5 (fun hd=>(u hd).2.1)
 have aj:∀g,blk v'=some g->Frs X.w0 X.O g:=fun g hg=>by
  rcases r4 g hg with h|h
  ·exact .inr (Xam d.mem.size h)
  ·exact k6 g h
 have ab:=d.swap k
  (by
   unfold EntOk
   exact⟨te.size,us++ad,k0,k1,by rw[Xab];exact r2,fun l hl=>(Xag.1 hl).elim (k3 l) (hz l),by
    have:=Yk (QI i.size _ _ _ k4 aa) (QI i.size _ _ _ g6 (by simp))
    simpa using this,fun hd b hb=>k.imm (k5 hd b hb),aj,fun hd=>⟨(u hd).1,fun b hb=>⟨((u hd).2.1 b hb).1,XaO ((u hd).2.1 b hb).2.1 i.size,fun hq=>by
     rcases r4 b hq with h|h
     ·have:=((u hd).2.1 b hb).2.1;omega
     ·exact((u hd).2.1 b hb).2.2 h⟩,by
     rw[Xcx]
     exact NstL.app (Qy (Je k4)) ((u hd).2.2.same (Je k4) aa) (NstL.nilE (QI i.size _ _ _ g6 (by simp)))⟩⟩)
  (fun hd z hz hzn hdz b hb=>d.mem.apart_ne m hz (fun e=>hzn (e.symm.trans c)) (by rw[r];exact hd) hdz hb)
 unfold Oper.wp
 rw[ac,Oper.upon_value,hd]
 exact hn _ _ _ hK ⟨_,ab.put ⟨x',Xaa,rfl,rfl,rfl⟩ ht⟩
theorem zk37{s x:Operand}{T e:TypeId}{es2:List (List D)}{n2:Nat}[te:TI X.P e](ho:o.op=.call { callee:=.builtin .append,args:=#[s,x],argTypes:=#[T,T] })(hd:o.dst=some t)(hT:JD X T=some e)(hK:K ⟨σ.nt,(t,.row t)::σ.sl,(t,.row e es2 true)::YT t σ.ob⟩)(hs:σ.ev s=.nil:=by exact rfl)(hx:σ.els (σ.ev x)=some es2:=by exact rfl)(hk:VS te:=by exact⟨rfl,rfl,rfl⟩)(hn2:es2.length=n2:=by exact zd0)(hz:lenE es2 te.size:=by exact zd2)(hfl:Wg es2=true:=by exact zd3)(hb:n2<=1099511627776:=by omega)(hf:YU X.fre t σ.ob=true:=by exact rfl)(ht:Nat.blt t σ.nt=true:=by exact rfl):OpOk X o σ K:=
 Qct (ao:=.row e es2 true) hd ht hf (fun a w en h1=>by
  have z:=QO hT
  obtain⟨q,q1,q2,q3,q4⟩:=te.parts
  obtain⟨A,k,p,g1,g2,g3,F,v⟩:=Xm h1 hx (AS.ev_shows h1 x)
  obtain⟨A',n,f,F',i,y,j,_⟩:=QoB v hz
  have l:=YE j (Yt hfl)
  subst l
  rw[p]at i
  injection i with i _ e3
  subst i;subst e3
  have u:a.eval s=.slice none 0 0:=QT h1 hs
  have m:0+es2.length<=1099511627776:=by rw[hn2];omega
  obtain⟨r,w',r1,r2,c,r4⟩:=Y1 (P:=X.P) 0 T o.type e q te.zero te.size te.bytes z q1 q2 q3 q4 ((Qg _ _).1 hk.zero) (Jp hk.pos) (.slice none 0 0) 0 [] (World.ownsRow_nil w 0 e te.size) A es2.length k f y (XM j)
   (by unfold maxLen;omega) (Xe m hk.bytes) (Xae _)
  have d:∀b,blk r=some b->w.heap.size<=b:=fun b hb=>(r4 b hb).resolve_right (fun h=>by cases h)
  refine⟨r,[],w',?_,⟨c.os,c.tape,c.output,c.size,fun b hb=>c.block b hb (by simp[Value.ownBlock])⟩,fun en' he=>⟨_,he,rfl,rfl,rfl⟩,d,fun hI hT=>?_,fun _=>rfl⟩
  ·unfold execOp
   simp only[ho,resolve,invoke,builtin,Sem.run_bind,Sem.run_pure,Result.andThen_ok,Xbu,Xas,Xbj,u,p,r1]
  ·unfold EntOk
   refine⟨te.size,f,te.sized,Jp hk.pos,by simpa using r2,hz,QI c.size _ _ _ j (by simp),by simp,fun g hg=>.inr (Xam h1.mem.size (d g hg)),fun _=>⟨by simp,by simp,NstL.nilE (QI c.size _ _ _ j (by simp))⟩⟩) hK

theorem zk38{s x:Operand}{T e:TypeId}{p:Nat}{es es2:List (List D)}{dp:Bool}{n1 n2:Nat}[te:TI X.P e](ho:o.op=.call { callee:=.builtin .append,args:=#[s,x],argTypes:=#[T,T] })(hd:o.dst=some t)(hT:JD X T=some e)(hK:K ⟨σ.nt,(t,.row p)::cutS (notN p) σ.sl,(p,.row e (es++es2) false)::Qjx (notN p) p σ.ob⟩)(hs:σ.ev s=.row p:=by exact rfl)(hp:Ql σ.ob p=some (.row e es dp):=by exact rfl)(hx:σ.els (σ.ev x)=some es2:=by exact rfl)(hk:VS te:=by exact⟨rfl,rfl,rfl⟩)(hn1:es.length=n1:=by exact zd0)(hn2:es2.length=n2:=by exact zd0)(hz:lenE es2 te.size:=by exact zd2)(hb:n1+n2<=1099511627776:=by omega)(hlo:X.fre p=true:=by exact rfl)(ht:Nat.blt t σ.nt=true:=by exact rfl)(hI:σ.okI (σ.ev x)=true:=by exact rfl):OpOk X o σ K:=by
 intro a w hr next Q hn
 obtain⟨en,f⟩:=hr
 have hu:=QO hT
 obtain⟨y,m,d,aa⟩:=f.ent hp
 have i:=f.mem.ok y m
 unfold EntOk at i
 rw[aa]at i
 obtain⟨z,us,k0,k1,k2,k3,k4,k5,k6,k7⟩:=i
 obtain⟨q,q1,q2,q3,q4⟩:=te.parts
 have al:z=te.size:=by rw[te.sized]at k0;simpa using k0.symm
 subst al
 obtain⟨A,ae,ab,F',e1,g5,g6,g7⟩:=QfF f hx hI (AS.ev_shows f x) hz
 obtain⟨r,ak,f1,f2,f3⟩:=QT f hs
 have:=f.mem.ent_unique ak m (f1.trans d.symm)
 subst this
 have ai:es.length+es2.length<=1099511627776:=by rw[hn1,hn2];exact hb
 obtain⟨v',w',r1,r2,k,r4⟩:=Y1 (P:=X.P) 0 T o.type e q te.zero te.size te.bytes hu q1 q2 q3 q4 ((Qg _ _).1 hk.zero) k1 r.val es.length us k2 A es2.length ae ab g5 (XM g6)
  (by unfold maxLen;omega) (Xe ai hk.bytes) (Xae _)
 have v:(execOp a.eval o).run X.P w=.ok (.value v') w':=by
  unfold execOp
  simp only[ho,resolve,invoke,builtin,Sem.run_bind,Sem.run_pure,Result.andThen_ok,Xbu,Xas,Xbj,f3,e1,r1]
 let x':Ent:=⟨p,.row e (es++es2) false,v',r.fs++F'⟩
 have j:∀b,b<w.heap.size->blk r.val≠some b->Same w w' b:=fun b hb hne=>k.block b hb (by rw[QgU k2];exact fun e=>hne e.symm)
 have c:Qfi X.P X.w0 X.Z X.O en w w' p x' (notN p):=
  ⟨f.mem,fun n hn=>QjT hn,(fun h=>by rw[Zd]at h;cases h),k.os,k.tape,k.output,k.size,
   fun b hb hno=>j b hb (hno r m d),fun b hb=>by
    rcases hb with hb|⟨hd,hb⟩
    ·exact(r4 b hb).imp id (fun h=>⟨r,m,d,.inl h⟩)
    ·exact Bool.noConfusion hd,rfl,X.Z.lo _ _ hlo⟩
 have ah:∀b∈r.fs,Same w w' b:=c.same_fs m d k5 (fun hd=>(k7 hd).2.1)
 have ag:=c.imm_fs m d (by rw[aa];rfl) k5 (fun hd=>(k7 hd).2.1) (fun hd b hb hq=>by
  rcases hq with hq|⟨hq,_⟩
  ·rcases r4 b hq with h|h
   ·have:=((k7 hd).2.1 b hb).2.1;omega
   ·exact((k7 hd).2.1 b hb).2.2 h
  ·cases hq)
 have af:∀g,blk v'=some g->Frs X.w0 X.O g:=fun g hg=>by
  rcases r4 g hg with h|h
  ·exact .inr (Xam f.mem.size h)
  ·exact k6 g h
 have u:=f.swap c
  (by
   unfold EntOk
   exact⟨te.size,us++ab,k0,k1,by rw[Xab];exact r2,fun l hl=>(Xag.1 hl).elim (k3 l) (hz l),
    Yk (QI k.size _ _ _ k4 ah) (QI k.size _ _ _ g6 (fun b hb=>c.same (g7 b hb))),
    fun _ b hb=>(Xag.1 hb).elim (fun h=>ag b h) (fun h=>c.imm (g7 b h)),af,fun h=>by cases h⟩)
  (fun hd=>by cases hd)
 unfold Oper.wp
 rw[v,Oper.upon_value,hd]
 exact hn _ _ _ hK ⟨_,u.put ⟨x',Xaa,rfl,rfl,rfl⟩ ht⟩
theorem zk39{s x:Operand}{T e:TypeId}{es2:List (List D)}{n2:Nat}[te:TI X.P e](ho:o.op=.call { callee:=.builtin .append,args:=#[s,x],argTypes:=#[T,T] })(hd:o.dst=some t)(hT:JD X T=some e)(hK:K ⟨σ.nt,(t,.row t)::σ.sl,(t,.row e es2 false)::YT t σ.ob⟩)(hs:σ.ev s=.nil:=by exact rfl)(hx:σ.els (σ.ev x)=some es2:=by exact rfl)(hk:VS te:=by exact⟨rfl,rfl,rfl⟩)(hn2:es2.length=n2:=by exact zd0)(hz:lenE es2 te.size:=by exact zd2)(hb:n2<=1099511627776:=by omega)(hf:YU X.fre t σ.ob=true:=by exact rfl)(ht:Nat.blt t σ.nt=true:=by exact rfl)(hI:σ.okI (σ.ev x)=true:=by exact rfl):OpOk X o σ K:=
 Qct (ao:=.row e es2 false) hd ht hf (fun a w en h1=>by
  have v:=QO hT
  obtain⟨q,y,z,q3,q4⟩:=te.parts
  obtain⟨A,i,f,F',p,u,k,l⟩:=QfF h1 hx hI (AS.ev_shows h1 x) hz
  have r:a.eval s=.slice none 0 0:=QT h1 hs
  have j:0+es2.length<=1099511627776:=by rw[hn2];omega
  obtain⟨m,n,r1,r2,c,r4⟩:=Y1 (P:=X.P) 0 T o.type e q te.zero te.size te.bytes v y z q3 q4 ((Qg _ _).1 hk.zero) (Jp hk.pos) (.slice none 0 0) 0 [] (World.ownsRow_nil w 0 e te.size) A es2.length i f u (XM k)
   (by unfold maxLen;omega) (Xe j hk.bytes) (Xae _)
  have d:∀b,blk m=some b->w.heap.size<=b:=fun b hb=>(r4 b hb).resolve_right (fun h=>by cases h)
  have hx:Ext w n:=⟨c.os,c.tape,c.output,c.size,fun b hb=>c.block b hb (by simp[Value.ownBlock])⟩
  refine⟨m,F',n,?_,hx,fun en' he=>⟨_,he,rfl,rfl,rfl⟩,d,fun hI hT=>?_,fun h=>by cases h⟩
  ·unfold execOp
   simp only[ho,resolve,invoke,builtin,Sem.run_bind,Sem.run_pure,Result.andThen_ok,Xbu,Xas,Xbj,r,p,r1]
  ·unfold EntOk
   refine⟨te.size,f,te.sized,Jp hk.pos,by simpa using r2,hz,QI c.size _ _ _ k (fun b hb=>hx.block b (l b hb).2.1),fun _ b hb=>hI b (l b hb),fun g hg=>.inr (Xam h1.mem.size (d g hg)),fun h=>by cases h⟩) hK
theorem zk40{T e:TypeId}{len:Nat}{parts:Array (Nat×Operand)}{cs:List AV}{ds:List D}{es:List (List D)}[te:TI X.P e](ho:o.op=.buildSlice T len parts)(hd:o.dst=some t)(hT:JD X T=some e)(hK:K ⟨σ.nt,(t,.row t)::σ.sl,(t,.row e es true)::YT t σ.ob⟩)(hk:VS te:=by exact⟨rfl,rfl,rfl⟩)(hz1:te.zero.cells.toList.all Value.oneCell'=true:=by exact rfl)(hcs:QkH te.size (Qf2 te.zero len) (σ.evParts parts.toList)=some cs:=by exact rfl)(hds:YY cs=some ds:=by exact rfl)(hl:Nat.beq ds.length (len*te.size)=true:=by exact rfl)(hfl:ds.all D.flat1=true:=by exact rfl)(hsm:Nat.ble (len*te.size) 16777216=true:=by exact rfl)(hes:QeK (chunk te.size len ds) some=some es:=by exact rfl)(hf:YU X.fre t σ.ob=true:=by exact rfl)(ht:Nat.blt t σ.nt=true:=by exact rfl):OpOk X o σ K:=
 Qct (ao:=.row e es true) hd ht hf (fun a w en h1=>by
  rw[Qba]at hes
  injection hes with hes
  subst hes
  have hu:=QO hT
  obtain⟨q,q1,q2,m,q4⟩:=te.parts
  have f:=Jp hk.pos
  have v:te.zero.cells.size=te.size:=(Qg _ _).1 hk.zero
  have c:((Array.range (len*te.size)).map (te.zero.cells[· % te.zero.cells.size]!)).toList=(List.replicate len te.zero.cells.toList).flatten:=by
   have j:=Zj te.zero.cells len (by omega)
   rw[show len*te.zero.cells.size=len*te.size by rw[v]]at j
   exact j
  obtain⟨s,u⟩:=ZE h1 parts.toList
  obtain⟨r,y,r2,r3⟩:=Qc7 (vs:=parts.toList.map fun x=>(x.1,a.eval x.2)) (cells:=(Array.range (len*te.size)).map (te.zero.cells[· % te.zero.cells.size]!)) h1.mem hcs
   (by rw[c];exact X7 te.zero len) (by rw[c];exact QdS hz1 len) s u
  obtain⟨F,k1,k2⟩:=YB hds r2
  have d:ds.length=len*te.size:=(Qg _ _).1 hl
  have hF:F=[]:=JF k1 (Jl hfl)
  subst hF
  obtain⟨z,g2,g3⟩:=Qdg d k1
  have i:r.toList.length=len*te.size:=by rw[QD r2,VV hds];exact d
  have ai:len<=16777216:=by
   have:=XaL hsm
   exact Xam (Xcj len f) this
  refine⟨.slice (some ⟨w.heap.size,0,none⟩) len len,[],w.alloc (.cells r e),?_,Ext.alloc_ w _,fun en' he=>⟨_,he,rfl,rfl,rfl⟩,fun b hb=>?_,fun hI hTr=>?_,fun _=>rfl⟩
  ·have p:parts.map (fun(x:Nat×Operand)=>(x.1,a.eval x.2))=(parts.toList.map fun x=>(x.1,a.eval x.2)).toArray:=by cases parts;simp
   have l:¬(len*te.size>2 ^ 24):=by have:=XaL hsm;omega
   have k:(Instr.buildSlice T len (parts.map fun(x:Nat×Operand)=>(x.1,a.eval x.2))).run X.P w=.ok (.slice (some ⟨w.heap.size,0,none⟩) len len) (w.alloc (.cells r e)):=by
    rw[p]
    by_cases j:len*te.size=0
    ·have n:len=0:=by
      rcases Nat.mul_eq_zero.1 j with h|h
      ·exact h
      ·omega
     subst n
     have e1:((Array.range (0*te.size)).map (te.zero.cells[· % te.zero.cells.size]!))=(#[]:Array Value):=by simp
     rw[e1]at y
     simp[Instr.buildSlice,run_underlying hu,sizeOf,typeInfo,q1,m,y,newRow,Array.range_zero']
    ·exact run_buildSlice w T e len _ r q te.zero hu q1 q2 (by rw[m];exact l) (by rw[m];exact j) (by rw[m];exact y)
   simp only[execOp,ho,Sem.run_bind,k,Result.andThen]
   rfl
  ·simp only[blk,Xak]at hb
   exact XbU hb
  ·unfold EntOk
   refine⟨te.size,r.toList,te.sized,f,?_,g2,QI (Ext.alloc_ w _).size _ _ _ z (by simp),by simp,fun g hg=>?_,fun _=>⟨by simp,by simp,NstL.nilE (QI (Ext.alloc_ w _).size _ _ _ z (by simp))⟩⟩
   ·rw[g3]
    refine⟨i,.inr ⟨w.heap.size,len,r,rfl,Xae _,heap_alloc_new w _,Xaj _,by unfold maxLen;omega,by rw[<-Xax];exact i,by rw[<-i];exact Xal⟩⟩
   ·simp only[blk,Xak]at hg
    subst hg
    exact .inr h1.mem.size) hK
theorem zk41{T e:TypeId}{x:Operand}{p i j:Nat}{es:List (List D)}{dp:Bool}{zd:List D}[te:TI X.P e](ho:o.op=.call { callee:=.builtin .clear,args:=#[x],argTypes:=#[T] })(hd:o.dst=none)(hT:JD X T=some e)(hK:K ⟨σ.nt,σ.sl,(p,.row e (es.take i++(List.replicate (j-i) zd++es.drop j)) dp)::YT p σ.ob⟩)(hx:σ.ev x=.sub p i j:=by exact rfl)(hp:Ql σ.ob p=some (.row e es dp):=by exact rfl)(hk:VS te:=by exact⟨rfl,rfl,rfl⟩)(hz1:te.zero.cells.toList.all Value.oneCell'=true:=by exact rfl)(hzd:(YY (VB te.zero)).bind (fun l=>Z2 l some)=some zd:=by exact rfl)(hfz:zd.all D.flat1=true:=by exact rfl)(hlz:Nat.beq zd.length te.size=true:=by exact rfl)(hfl:Wg es=true:=by exact zd3)(hij:i<j:=by omega):OpOk X o σ K:=Qd8 ho hd hT hx hp hk hz1 hzd hfz hlz hfl hij hK
theorem zk42{T e:TypeId}{len:Nat}{parts:Array (Nat×Operand)}{cs:List AV}{ds:List D}{es:List (List D)}[te:TI X.P e](ho:o.op=.buildSlice T len parts)(hd:o.dst=some t)(hT:JD X T=some e)(hK:K ⟨σ.nt,(t,.row t)::σ.sl,(t,.row e es false)::YT t σ.ob⟩)(hk:VS te:=by exact⟨rfl,rfl,rfl⟩)(hz1:te.zero.cells.toList.all Value.oneCell'=true:=by exact rfl)(hcs:QkH te.size (Qf2 te.zero len) (σ.evParts parts.toList)=some cs:=by exact rfl)(hds:YY cs=some ds:=by exact rfl)(hl:Nat.beq ds.length (len*te.size)=true:=by exact rfl)(hsm:Nat.ble (len*te.size) 16777216=true:=by exact rfl)(hes:QeK (chunk te.size len ds) some=some es:=by exact rfl)(hf:YU X.fre t σ.ob=true:=by exact rfl)(ht:Nat.blt t σ.nt=true:=by exact rfl):OpOk X o σ K:=
 Qct (ao:=.row e es false) hd ht hf (fun a w en h1=>by
  rw[Qba]at hes
  injection hes with hes
  subst hes
  have z:=QO hT
  obtain⟨q,q1,q2,m,q4⟩:=te.parts
  have f:=Jp hk.pos
  have v:te.zero.cells.size=te.size:=(Qg _ _).1 hk.zero
  have c:((Array.range (len*te.size)).map (te.zero.cells[· % te.zero.cells.size]!)).toList=(List.replicate len te.zero.cells.toList).flatten:=by
   have j:=Zj te.zero.cells len (by omega)
   rw[show len*te.zero.cells.size=len*te.size by rw[v]]at j
   exact j
  obtain⟨s,u⟩:=ZE h1 parts.toList
  obtain⟨r,y,r2,r3⟩:=Qc7 (vs:=parts.toList.map fun x=>(x.1,a.eval x.2)) (cells:=(Array.range (len*te.size)).map (te.zero.cells[· % te.zero.cells.size]!)) h1.mem hcs
   (by rw[c];exact X7 te.zero len) (by rw[c];exact QdS hz1 len) s u
  obtain⟨F,k1,k2⟩:=YB hds r2
  have d:ds.length=len*te.size:=(Qg _ _).1 hl
  obtain⟨g1,g2,g3⟩:=Qdg d k1
  have i:r.toList.length=len*te.size:=by rw[QD r2,VV hds];exact d
  have ah:len<=16777216:=by
   have:=XaL hsm
   exact Xam (Xcj len f) this
  refine⟨.slice (some ⟨w.heap.size,0,none⟩) len len,F,w.alloc (.cells r e),?_,Ext.alloc_ w _,fun en' he=>⟨_,he,rfl,rfl,rfl⟩,fun b hb=>?_,fun hI hTr=>?_,fun h=>by cases h⟩
  ·have p:parts.map (fun(x:Nat×Operand)=>(x.1,a.eval x.2))=(parts.toList.map fun x=>(x.1,a.eval x.2)).toArray:=by cases parts;simp
   have l:¬(len*te.size>2 ^ 24):=by have:=XaL hsm;omega
   have k:(Instr.buildSlice T len (parts.map fun(x:Nat×Operand)=>(x.1,a.eval x.2))).run X.P w=.ok (.slice (some ⟨w.heap.size,0,none⟩) len len) (w.alloc (.cells r e)):=by
    rw[p]
    by_cases j:len*te.size=0
    ·have n:len=0:=by
      rcases Nat.mul_eq_zero.1 j with h|h
      ·exact h
      ·omega
     subst n
     have e1:((Array.range (0*te.size)).map (te.zero.cells[· % te.zero.cells.size]!))=(#[]:Array Value):=by simp
     rw[e1]at y
     simp[Instr.buildSlice,run_underlying z,sizeOf,typeInfo,q1,m,y,newRow,Array.range_zero']
    ·exact run_buildSlice w T e len _ r q te.zero z q1 q2 (by rw[m];exact l) (by rw[m];exact j) (by rw[m];exact y)
   simp only[execOp,ho,Sem.run_bind,k,Result.andThen]
   rfl
  ·simp only[blk,Xak]at hb
   exact XbU hb
  ·unfold EntOk
   refine⟨te.size,r.toList,te.sized,f,?_,g2,QI (Ext.alloc_ w _).size _ _ _ g1 (fun b hb=>(Ext.alloc_ w _).block b (k2 b hb).2.1),fun _ b hb=>hI b (k2 b hb),fun g hg=>?_,fun h=>by cases h⟩
   ·rw[g3]
    refine⟨i,.inr ⟨w.heap.size,len,r,rfl,Xae _,heap_alloc_new w _,Xaj _,by unfold maxLen;omega,by rw[<-Xax];exact i,by rw[<-i];exact Xal⟩⟩
   ·simp only[blk,Xak]at hg
    subst hg
    exact .inr h1.mem.size) hK
theorem zk43{T e:TypeId}{x y:Operand}{p q:Int}{n:Nat}{zd:List D}[te:TI X.P e](ho:o.op=.makeSlice T x y)(hd:o.dst=some t)(hT:JD X T=some e)(hK:K ⟨σ.nt,(t,.row t)::σ.sl,(t,.row e (List.replicate n zd) true)::YT t σ.ob⟩)(hx:σ.ev x=.d (.n .i64 p):=by exact rfl)(hp:p=(n:Int):=by exact zd1)(hy:σ.ev y=.d (.n .i64 q):=by exact rfl)(hq:q=(n:Int):=by exact zd1)(hb:n<=1099511627776:=by omega)(hk:VS te:=by exact⟨rfl,rfl,rfl⟩)(hzd:(YY (VB te.zero)).bind (fun l=>Z2 l some)=some zd:=by exact rfl)(hfl:zd.all D.flat1=true:=by exact rfl)(hlz:Nat.beq zd.length te.size=true:=by exact rfl)(hf:YU X.fre t σ.ob=true:=by exact rfl)(ht:Nat.blt t σ.nt=true:=by exact rfl):OpOk X o σ K:=
 Qct (ao:=.row e (List.replicate n zd) true) hd ht hf (fun a w en h1=>by
  have hzd:YY (VB te.zero)=some zd:=by
   cases z:YY (VB te.zero) with
   | none=>rw[z]at hzd;cases hzd
   | some l=>rw[z,Xbc,Xd]at hzd;exact hzd
  subst hp;subst hq
  have hu:=QO hT
  obtain⟨i,q1,q2,q3,q4⟩:=te.parts
  have h:=Jp hk.pos
  have m:te.zero.cells.size=te.size:=(Qg _ _).1 hk.zero
  have f:=Zj te.zero.cells n (by omega)
  obtain⟨F,⟨e1,_⟩,_⟩:=QT h1 hx
  obtain⟨G,⟨e2,_⟩,_⟩:=QT h1 hy
  obtain⟨F',s,k2⟩:=YB (w:=w) (en:=en) (I:=IM X en w) hzd (YL te.zero.cells.toList)
  have hF:F'=[]:=JF s (Jl hfl)
  subst hF
  have r:zd.length=te.size:=(Qg _ _).1 hlz
  have k:te.bytes<=200:=XaL hk.bytes
  have v:=run_make (P:=X.P) w T e i te.zero hu q1 q2 .i64 .i64 n n (by omega) (Xbf _) (by
   rw[q4]
   have:te.bytes*n<=200*1099511627776:=Nat.mul_le_mul k hb
   have h2:((te.bytes*n:Nat):Int)<=281474976710656:=by omega
   rwa [XcA]at h2) (by omega)
  simp only[XbS]at v
  refine⟨.slice (some ⟨w.heap.size,0,none⟩) n n,[],w.alloc (.cells (madeCells te.zero.cells (n*i.size)) e),?_,Ext.alloc_ w _,fun en' he=>⟨_,he,rfl,rfl,rfl⟩,fun b hb=>?_,fun hI hTr=>?_,fun _=>rfl⟩
  ·simp only[execOp,ho,e1,e2,Sem.run_bind,v,Result.andThen]
   rfl
  ·simp only[blk,Xak]at hb
   exact XbU hb
  ·unfold EntOk
   have u:(madeCells te.zero.cells (n*i.size)).toList=(List.replicate n te.zero.cells.toList).flatten:=by rw[q3,<-m];exact f
   refine⟨te.size,(List.replicate n te.zero.cells.toList).flatten,te.sized,h,?_,fun el hel=>?_,QI (Ext.alloc_ w _).size _ _ _ (Ys s n) (by simp),by simp,fun g hg=>?_,fun _=>⟨by simp,by simp,NstL.nilE (QI (Ext.alloc_ w _).size _ _ _ (Ys s n) (by simp))⟩⟩
   ·rw[Xbt]
    have j:(madeCells te.zero.cells (n*i.size)).size=n*te.size:=by rw[size_madeCells,q3]
    have c:(List.replicate n te.zero.cells.toList).flatten.length=n*te.size:=by rw[<-u,Xax,j]
    refine⟨c,.inr ⟨w.heap.size,n,_,rfl,Xae _,heap_alloc_new w _,Xaj _,by unfold maxLen;omega,j,?_⟩⟩
    rw[u,<-c]
    exact Xal
   ·rw[Xbs hel];exact r
   ·simp only[blk,Xak]at hg
    subst hg
    exact .inr h1.mem.size) hK

end
section
variable {X:Cx} {σ:AS} {o:Oper} {K:AS->Prop} {Q:Exit->AS->Prop} {t:Nat}
theorem zk44{src dst e:TypeId}{x:Operand}{l:List UInt8}(hK:K (σ.put t (.d (.sl (QC l)))))(ho:o.op=.convert src dst x:=by exact rfl)(hd:o.dst=some t:=by exact rfl)(hs:ZK X src=true:=by exact rfl)(hT:JD X dst=some e:=by exact rfl)(he:QrY X e=true:=by exact rfl)(hx:σ.ev x=.d (.s l):=by exact rfl)(hb:l.length<=9223372036854775807:=by omega)(ht:Nat.blt t σ.nt=true:=by exact rfl):OpOk X o σ K:=
 QxE hd ht (fun a w en h=>by
  obtain⟨F,⟨u,_⟩,_⟩:=QT h hx
  have p:=run_bytes_of_string (P:=X.P) w src dst e ⟨l.toArray⟩ (WG hs) (QO hT) (QdR he)
  have i:(⟨l.toArray⟩:ByteArray).size=l.length:=by simp[ByteArray.size]
  rw[i]at p
  have y:Ext w (w.drew.alloc (.cells (bytesRow ⟨l.toArray⟩ (grownCap w l.length 0 e)) e ((bytesRow ⟨l.toArray⟩ (grownCap w l.length 0 e)).size,(bytesRow ⟨l.toArray⟩ (grownCap w l.length 0 e)).size+1))):=(Ext.drew w).trans (Ext.alloc_ w.drew _)
  have m:(QC l).length=l.length:=by simp[QC]
  have r:∀q∈QC l,q.length=1:=by
   intro q n
   unfold QC at n
   obtain⟨b,_,rfl⟩:=Xaf.1 n
   rfl
  have c:l.length<=grownCap w l.length 0 e:=grownCap_ge w l.length 0 e
  have f:grownCap w l.length 0 e<=maxLen:=grownCap_le_maxLen w l.length 0 e (by unfold maxLen;omega)
  refine⟨_,_,by simp only[execOp,ho,u,Sem.run_bind,p,Result.andThen];rfl,y,?_⟩
  by_cases k:l=[]
  ·subst k
   exact⟨[],⟨_,_,1,[],[],rfl,c,f,(fun e=>by cases e),r,⟨rfl,rfl⟩,.inl ⟨rfl,rfl⟩⟩,by simp⟩
  ·refine⟨[w.heap.size],⟨_,_,1,l.map fun b=>.int .u8 (b.toNat:Int),[],by rw[m],by rw[m];exact c,f,(fun e=>by cases e),r,X2 _ l,.inr ⟨by simpa [QC] using k,w.heap.size,0,rfl,by simp,rfl,fun j v hj=>?_⟩⟩,fun b hb=>?_⟩
   ·have g:j<l.length:=by simpa using (List.getElem?_eq_some_iff.1 hj).1
    rw[XaZ,show w.heap.size=w.drew.heap.size from rfl,World.cell?_alloc_mark,bytesRow_at ⟨l.toArray⟩ _ j (by simpa using g),<-hj]
    simp[List.getElem?_eq_getElem g]
   ·rw[XaH]at hb
    subst hb
    exact⟨.inr (.inr h.mem.size),by simp,fun x hx hbx=>absurd ((h.mem.ok x hx).lth hbx).1 (Nat.lt_irrefl _)⟩) hK
end
section
variable {X:Cx} {σ:AS} {o:Oper} {K:AS->Prop} {t:Nat}
theorem zk45{T e:TypeId}{x y:Operand}{p i off n:Nat}{es:List (List D)}{dp:Bool}{el ds:List D}{xs:List AV}[ti:TI X.P T](ho:o.op=.store T x y)(hK:K ⟨σ.nt,σ.sl,(p,.row e (es.set i (splice el off ds)) dp)::YT p σ.ob⟩)(hd:o.dst=none:=by exact rfl)(hx:σ.ev x=.pr p i off:=by exact rfl)(hp:Ql σ.ob p=some (.row e es dp):=by exact rfl)(hy:(σ.ev y).cellsV=some xs:=by exact rfl)(hds:YY xs=some ds:=by exact rfl)(hn:es.length=n:=by exact zd0)(hlt:i<n:=by omega)(hel:es[i]?=some el:=by exact zd4)(hfe:el.all D.flat1=true:=by exact rfl)(hfd:ds.all D.flat1=true:=by exact rfl)(hl:Nat.beq ds.length ti.size=true:=by exact rfl)(hfit:Nat.ble (off+ti.size) el.length=true:=by exact rfl):OpOk X o σ K:=by
 have ab:ds.length=ti.size:=(Qg _ _).1 hl
 have ac:off+ti.size<=el.length:=XaL hfit
 refine Qqs (ao':=.row e (es.set i (splice el off ds)) dp) hp hd rfl ?_ rfl (fun a w en z h1 hz hzn hza hok=>?_) hK
 ·simp only[AO.lens,XbL]
  rw[Q0 (by omega)]
  refine List.ext_getElem? fun k=>?_
  rw[List.getElem?_set]
  split
  ·rename_i hk
   subst hk
   split
   ·rw[List.getElem?_map,hel];rfl
   ·rename_i hk
    rw[List.getElem?_eq_none (by simpa using hk)]
  ·rfl
 ·unfold EntOk at hok
  rw[hza]at hok
  obtain⟨s,us,k0,k1,k2,t,k4,k5,k6,f⟩:=hok
  obtain⟨z',r,e1,e2,g',c,u,e4,e5,e6⟩:=QT h1 hx
  have:=h1.mem.ent_unique r hz (e1.trans hzn.symm)
  subst this
  rw[hza]at e4 e5
  have ae:c=s:=by
   have:=e4 el.length (Xaf.2 ⟨el,List.mem_of_getElem? hel,rfl⟩)
   rw[<-this,t el (List.mem_of_getElem? hel)]
  subst ae
  have l:el.length=c:=t el (List.mem_of_getElem? hel)
  obtain⟨h6,h7⟩:=YH h1.mem hy (AS.ev_shows h1 y)
  obtain⟨F,g1,g2⟩:=YB hds h6
  have hF:=JF g1 (Jl hfd)
  subst hF
  have j:(a.eval y).cells.toList.length=ti.size:=by rw[Qy g1];exact ab
  rcases k2.2 with ⟨hv,h0⟩|⟨g,cap,cur,hv,hbg,hg,hnc,hcm,hcs,htake⟩
  ·omega
  ·rw[hv]at u
   simp only[blk,Xak]at u
   subst u
   have av:i*c+c<=es.length*c:=by
    have:(i+1)*c<=es.length*c:=XaI _ (by omega)
    rwa [XaU,XbV]at this
   have ai:es.length*c<=cap*c:=XaI _ hnc
   refine⟨g,(splice cur.toList (i*c+off) (a.eval y).cells.toList).toArray,by rw[hv];rfl,?_,fun hT hIS=>?_⟩
   ·have h8:=YM (P:=X.P) (T:=T) (off:=i*c+off) (v:=a.eval y) hg (by rw[ti.sized,<-Xax,j]) (by rw[<-Xax,j,hcs];omega) h7
    simp only[execOp,ho,e6,Sem.run_bind,h8,Result.andThen]
    rfl
   ·have h:∀cr:Array Value,∀b∈z'.fs,Same w (w.setRow g cr) b:=fun cr b hb=>by
     cases dp with
     | false=>exact setRow_other w g b cr (fun e=>(k5 rfl b hb).2.2 z' r (.inl (by rw[hv,<-e];rfl)))
     | true=>exact setRow_other w g b cr (fun e=>((f rfl).2.1 b hb).2.2 (by rw[hv,<-e];rfl))
    unfold EntOk
    refine⟨c,splice us (i*c+off) (a.eval y).cells.toList,k0,k1,?_,fun q hq=>?_,QmI (QI (by simp) _ _ _ k4 (h _)) t hel (Jl hfe) (Vz (by simp) _ _ _ g1 (by simp)) (by omega),fun hd b hb=>(hIS b (k5 hd b hb)).1,k6,fun hd=>⟨(f hd).1,fun b hb=>⟨((f hd).2.1 b hb).1,by simpa using ((f hd).2.1 b hb).2.1,((f hd).2.1 b hb).2.2⟩,NstL.set ((f hd).2.2.same (Je k4) (h _)) k2.1 t hel (Jl hfe) (Jl hfd) (by omega) (by omega)⟩⟩
    ·have m:us.length=es.length*c:=k2.1
     have d:i*c+off+(a.eval y).cells.toList.length<=us.length:=by omega
     have aj:cur.toList.length=cap*c:=by rw[Xax];exact hcs
     refine⟨by rw[Q0 d,m,Xaw],.inr ⟨g,cap,_,by rw[hv,Xaw],Xae _,setRow_heap w g cur _ e _ hg,by rw[Xaw];exact hnc,hcm,?_,?_⟩⟩
     ·simp only[XbG]
      rw[Q0 (by omega),Xax]
      exact hcs
     ·rw[Xaw,<-htake]
      exact ZS (by rw[<-m];exact d)
    ·rcases Xbr hq with hq|rfl
     ·exact t q hq
     ·rw[Q0 (by omega)];exact l

theorem zk46{T e:TypeId}{x y:Operand}{p i off n:Nat}{es:List (List D)}{dp:Bool}{el ds:List D}{xs:List AV}[ti:TI X.P T](ho:o.op=.store T x y)(hK:K ⟨σ.nt,σ.sl,(p,.row e (es.set i (splice el off ds)) false)::YT p σ.ob⟩)(hd:o.dst=none:=by exact rfl)(hx:σ.ev x=.pr p i off:=by exact rfl)(hp:Ql σ.ob p=some (.row e es dp):=by exact rfl)(hy:(σ.ev y).cellsV=some xs:=by exact rfl)(hds:YY xs=some ds:=by exact rfl)(hn:es.length=n:=by exact zd0)(hlt:i<n:=by omega)(hel:es[i]?=some el:=by exact zd4)(hl:Nat.beq ds.length ti.size=true:=by exact rfl)(hfit:Nat.ble (off+ti.size) el.length=true:=by exact rfl):OpOk X o σ K:=by
 intro a w hr next Q ao
 obtain⟨en,j⟩:=hr
 have am:ds.length=ti.size:=(Qg _ _).1 hl
 have an:off+ti.size<=el.length:=XaL hfit
 obtain⟨z,hz,aq,f⟩:=j.ent hp
 have m:=j.mem.ok z hz
 unfold EntOk at m
 rw[f]at m
 obtain⟨s,us,k0,k1,k2,k3,k4,k5,k6,k7⟩:=m
 obtain⟨z',d,l,e2,g',c,e3,e4,e5,e6⟩:=QT j hx
 have:=j.mem.ent_unique d hz (l.trans aq.symm)
 subst this
 rw[f]at e4 e5
 have ap:c=s:=by
  have:=e4 el.length (Xaf.2 ⟨el,List.mem_of_getElem? hel,rfl⟩)
  rw[<-this,k3 el (List.mem_of_getElem? hel)]
 subst ap
 have aa:el.length=c:=k3 el (List.mem_of_getElem? hel)
 obtain⟨h6,h7⟩:=YH j.mem hy (AS.ev_shows j y)
 obtain⟨F,g1,g2⟩:=YB hds h6
 have u:(a.eval y).cells.toList.length=ti.size:=by rw[Qy g1];exact am
 obtain⟨G,ai,r⟩:=Qjn k4 k3 hel g1 (off:=off) (by omega)
 rcases k2.2 with ⟨hv,h0⟩|⟨g,cap,cur,hv,hbg,hg,hnc,hcm,hcs,htake⟩
 ·omega
 ·rw[hv]at e3
  simp only[blk,Xak]at e3
  subst e3
  have a9:i*c+c<=es.length*c:=by
   have:(i+1)*c<=es.length*c:=XaI _ (by omega)
   rwa [XaU,XbV]at this
  have ax:es.length*c<=cap*c:=XaI _ hnc
  let nc:Array Value:=(splice cur.toList (i*c+off) (a.eval y).cells.toList).toArray
  have ac:(execOp a.eval o).run X.P w=.ok .skip (w.setRow g nc):=by
   have h8:=YM (P:=X.P) (T:=T) (off:=i*c+off) (v:=a.eval y) hg (by rw[ti.sized,<-Xax,u]) (by rw[<-Xax,u,hcs];omega) h7
   simp only[execOp,ho,e6,Sem.run_bind,h8,Result.andThen]
   rfl
  have al:blk z'.val=some g:=by rw[hv];rfl
  let x':Ent:=⟨p,.row e (es.set i (splice el off ds)) false,z'.val,G⟩
  have ab:(AO.row e (es.set i (splice el off ds)) false).lens=(AO.row e es dp).lens:=QlD hel (Q0 (by omega))
  have hs:Qfi X.P X.w0 X.Z X.O en w (w.setRow g nc) p x' (fun _=>true):=
   ⟨j.mem,fun _ _=>rfl,fun _ x hx e=>by
     have:=j.mem.ent_unique hx d (e.trans l.symm)
     subst this
     exact⟨e.symm,rfl,by rw[f];rfl,by rw[f];exact ab⟩,rfl,rfl,rfl,by simp,
    fun b hb hno=>setRow_other w g b nc (fun e=>hno z' d l (e▸al)),fun b hb=>.inr ⟨z',d,l,by
     rcases hb with hb|⟨hd,_⟩
     ·exact .inl hb
     ·cases hd⟩,rfl,l▸j.mem.fix z' d⟩
  have ak:∀b∈G,Same w (w.setRow g nc) b:=fun b hb=>(r b hb).elim (hs.same_fs d l k5 (fun hd=>(k7 hd).2.1) b) (fun h=>hs.same (g2 b h))
  have aj:=fun(b:Nat)(hb:b∈G)=>(r b hb).elim (hs.imm_fs d l (by rw[f];rfl) k5 (fun hd=>(k7 hd).2.1) (fun hd b hb hq=>by
   rcases hq with hq|⟨hq,_⟩
   ·exact((k7 hd).2.1 b hb).2.2 hq
   ·cases hq) b) (fun h=>hs.imm (g2 b h))
  have h9:=j.swap_keep hs (by
   unfold EntOk
   refine⟨c,splice us (i*c+off) (a.eval y).cells.toList,k0,k1,?_,fun q hq=>?_,QI (by simp) _ _ _ ai ak,fun _ b hb=>aj b hb,k6,fun h=>by cases h⟩
   ·have ae:us.length=es.length*c:=k2.1
    have k:i*c+off+(a.eval y).cells.toList.length<=us.length:=by omega
    have ay:cur.toList.length=cap*c:=by rw[Xax];exact hcs
    refine⟨by rw[Q0 k,ae,Xaw],.inr ⟨g,cap,_,by rw[hv,Xaw],Xae _,setRow_heap w g cur nc e _ hg,by rw[Xaw];exact hnc,hcm,?_,?_⟩⟩
    ·simp only[nc,XbG]
     rw[Q0 (by omega),Xax]
     exact hcs
    ·rw[Xaw,<-htake]
     exact ZS (by rw[<-ae];exact k)
   ·rcases Xbr hq with hq|rfl
    ·exact k3 q hq
    ·rw[Q0 (by omega)];exact aa) (fun hd=>by cases hd)
  unfold Oper.wp
  rw[ac,Oper.upon_skip,hd]
  exact ao _ _ _ hK ⟨_,h9⟩
end
section
variable {X:Cx} {σ:AS} {o:Oper} {K:AS->Prop} {Q:Exit->AS->Prop} {t:Nat}
end
section
variable {X:Cx} {σ:AS} {o:Oper} {K:AS->Prop} {t:Nat} {p q:Int} {xt yt:TypeId} {x y:Operand}
end
section
variable {X:Cx} {σ:AS} {o:Oper} {K:AS->Prop} {t:Nat}
theorem kc{f:FuncId}{as:Array Operand}{ats:Array TypeId}{xs rs:List AV}{rob:List (Nat×AO)}(hc:ACalls X.P f xs rs rob)(ho:o.op=.call { callee:=.value (.func f),args:=as,argTypes:=ats })(hx:σ.snaps as.toList=some xs)(hK:K ⟨σ.nt,(t,(one rs).shift t)::σ.sl,Vb t rob++σ.ob⟩)(hd:o.dst=some t:=by exact rfl)(hf:Qed X.fre t σ.ob rob=true:=by exact rfl)(ht:Nat.blt t σ.nt=true:=by exact rfl):OpOk X o σ K:=Qrb hc ho hd hx hf ht hK
theorem kq{f:FuncId}{as:Array Operand}{ats:Array TypeId}{xs rs:List AV}(hc:ACalls X.P f xs rs [])(ho:o.op=.call { callee:=.value (.func f),args:=as,argTypes:=ats })(hx:σ.snaps as.toList=some xs)(hK:K (σ.put t (one rs)))(hd:o.dst=some t:=by exact rfl)(hr:(one rs).rigid=true:=by exact rfl)(ht:Nat.blt t σ.nt=true:=by exact rfl):QOk X o σ K:=by
 intro a w b
 obtain⟨d,c⟩:=b
 refine⟨(one rs).val,fun w' hw'=>?_,σ.put t (one rs),hK,d,by rw[hd];exact c.put (AV.rigid_shows _ hr) ht⟩
 obtain⟨g,h⟩:=hc w' _ (ZN (c.ext hw') hx)
 unfold Oper.quietAt
 rw[Wq ho,g]
 refine⟨rfl,h.mono fun e w'' ⟨v,er,he,m,hk,hs⟩=>⟨?_,hw'.trans (Qb6 m)⟩⟩
 rw[he,AV.rigid_val _ _ hr hs]

theorem kv{f:FuncId}{x:Operand}{cs ys:List AV}{as:Array Operand}{ats:Array TypeId}{xs zs rs:List AV}{rob:List (Nat×AO)}(hc:ACalls X.P f zs rs rob)(ho:o.op=.call { callee:=.value x,args:=as,argTypes:=ats })(hv:σ.ev x=.clo f cs)(hy:QiL σ.ob cs=some ys)(hx:σ.snaps as.toList=some xs)(hz:xs++ys=zs)(hK:K ⟨σ.nt,(t,(one rs).shift t)::σ.sl,Vb t rob++σ.ob⟩)(hd:o.dst=some t:=by exact rfl)(hf:Qed X.fre t σ.ob rob=true:=by exact rfl)(ht:Nat.blt t σ.nt=true:=by exact rfl):OpOk X o σ K:=by
 intro a w c next Q i
 subst hz
 obtain⟨en,b⟩:=c
 obtain⟨us,j,d⟩:=QT b hv
 obtain⟨g,h⟩:=hc w _ (Yg (ZN b hx) (Xt b hy d))
 unfold Oper.wp
 rw[QcT ho a j,g,Oper.upon_enter]
 refine h.mono fun e w' ⟨v,er,he,m,hk,c⟩=>?_
 subst he
 rw[hd]
 exact i _ _ _ hK (b.merge m hk c hf ht)
theorem km{ι:Type}{f:FuncId}{as:Array Operand}{ats:Array TypeId}{xs:List AV}{obs:List (Nat×AO)}{ok:ι->Prop}{rs:ι->List AV}{obs' rob:ι->List (Nat×AO)}(ρ:List Nat)(hc:MCalls X.P f xs obs ok rs obs' rob)(ho:o.op=.call { callee:=.value (.func f),args:=as,argTypes:=ats })(hx:σ.handA ρ as.toList=some xs)(hK:∀i,ok i->K ⟨σ.nt,(t,(one (rs i)).mapN (JJ t ρ))::σ.sl,Vb t (rob i)++(Qfn ρ (obs' i)++Qi2 ρ σ.ob)⟩)(hd:o.dst=some t:=by exact rfl)(hob:σ.handed 1000000 ρ=some obs:=by exact rfl)(hn:YZ ρ=true:=by exact rfl)(hf:∀i,ok i->(QcR X.fre t σ.ob (rob i)&&(rob i).all fun y=>fre0 y.1)=true:=by exact fun _ _=>rfl)(ht:Nat.blt t σ.nt=true:=by exact rfl):OpOk X o σ K:=QlP ρ hc ho hd hx hob hn hf ht hK
theorem kw{ι:Type}{f:FuncId}{x:Operand}{cs ys:List AV}{as:Array Operand}{ats:Array TypeId}{xs zs:List AV}{obs:List (Nat×AO)}{ok:ι->Prop}{rs:ι->List AV}{obs' rob:ι->List (Nat×AO)}(ρ:List Nat)(hc:MCalls X.P f zs obs ok rs obs' rob)(ho:o.op=.call { callee:=.value x,args:=as,argTypes:=ats })(hv:σ.ev x=.clo f cs)(hy:Qfu ρ cs=some ys)(hx:σ.handA ρ as.toList=some xs)(hz:xs++ys=zs)(hK:∀i,ok i->K ⟨σ.nt,(t,(one (rs i)).mapN (JJ t ρ))::σ.sl,Vb t (rob i)++(Qfn ρ (obs' i)++Qi2 ρ σ.ob)⟩)(hd:o.dst=some t:=by exact rfl)(hob:σ.handed 1000000 ρ=some obs:=by exact rfl)(hn:YZ ρ=true:=by exact rfl)(hf:∀i,ok i->(QcR X.fre t σ.ob (rob i)&&(rob i).all fun y=>fre0 y.1)=true:=by exact fun _ _=>rfl)(ht:Nat.blt t σ.nt=true:=by exact rfl):OpOk X o σ K:=
 QfY ρ hc (fun a w en h=>by
  subst hz
  obtain⟨us,c,b⟩:=QT h hv
  exact⟨_,QcT ho a c w,fun _ _ hI he=>Yg (QaJ h hI he hx) (ZY hI he _ _ _ hy b)⟩) hd hob hn hf ht hK
theorem kn{ι:Type}{f:FuncId}{as:Array Operand}{ats:Array TypeId}{xs:List AV}{obs:List (Nat×AO)}{ok:ι->Prop}{rs:ι->List AV}{fin:ι->List (Nat×AO)}(ρ:List Nat)(hc:NCalls X.P f xs obs ok rs fin)(ho:o.op=.call { callee:=.value (.func f),args:=as,argTypes:=ats })(hx:σ.handNA ρ as.toList=some xs)(hK:∀i,ok i->K ⟨σ.nt,(t,(one (rs i)).mapN (JJ t ρ))::cutS (QaE ρ (fin i)) σ.sl,finO t ρ (fin i)++Ym (inN ρ) (QaE ρ (fin i)) σ.ob⟩)(hd:o.dst=some t:=by exact rfl)(hob:σ.handedN ρ 0 ρ=some obs:=by exact rfl)(hn:YZ ρ=true:=by exact rfl)(hno:W4 obs=true:=by exact rfl)(hf:∀i,ok i->Qnc X.fre t ρ σ.ob (fin i)=true:=by exact fun _ _=>rfl)(ht:Nat.blt t σ.nt=true:=by exact rfl):OpOk X o σ K:=Qln ρ hc ho hd hx hob hn hno hf ht hK
end
theorem zqo0{X:Cx}{σ:AS}{o:Oper}{K:AS->Prop}{R:Prop}(k:R)(_h0:Nat.beq (opx o.op) 0=true:=by exact rfl)(h:R->QOk X o σ K:=by intro r;first|exact zk0 r|exact zk1 r|exact zk2 r|exact zk3 r|exact zk4 r|exact zk5 r|exact zk6 r|exact zk10 r|exact zk19 r|exact zk28 QrQ (by kernel_rfl) r|exact zk29 QrQ (by kernel_rfl) r):QOk X o σ K:=h k
theorem zqo1{X:Cx}{σ:AS}{o:Oper}{K:AS->Prop}{R:Prop}(k:R)(_h0:Nat.beq (opx o.op) 8=true:=by exact rfl)(h:R->QOk X o σ K:=by intro r;first|exact zk11 r|exact zk12 (fun _=>r)|exact zk31 r):QOk X o σ K:=h k
theorem zqo2{X:Cx}{σ:AS}{o:Oper}{K:AS->Prop}{R:Prop}(k:R)(_h0:Nat.beq (opx o.op) 3=true:=by exact rfl)(h:R->QOk X o σ K:=by intro r;first|exact zk13 rfl rfl rfl r|exact zk14 r|exact zk32 rfl rfl rfl r):QOk X o σ K:=h k
theorem zqo3{X:Cx}{σ:AS}{o:Oper}{K:AS->Prop}{R:Prop}(k:R)(_h0:Nat.beq (opx o.op) 5=true:=by exact rfl)(h:R->QOk X o σ K:=by intro r;first|exact zk15 r|exact zk16 rfl rfl rfl r|exact zk30 rfl rfl rfl r):QOk X o σ K:=h k
theorem zqo4{X:Cx}{σ:AS}{o:Oper}{K:AS->Prop}{R:Prop}(k:R)(_h0:Nat.beq (opx o.op) 1=true:=by exact rfl)(h:R->QOk X o σ K:=by intro r;first|exact zk17 r|exact zk20 r|exact zk21 r|exact zk22 r):QOk X o σ K:=h k
theorem zqo5{X:Cx}{σ:AS}{o:Oper}{K:AS->Prop}{R:Prop}(k:R)(_h0:Nat.beq (opx o.op) 2=true:=by exact rfl)(h:R->QOk X o σ K:=by intro r;first|exact zk18 r):QOk X o σ K:=h k
theorem zqo6{X:Cx}{σ:AS}{o:Oper}{K:AS->Prop}{R:Prop}(k:R)(_h0:Nat.beq (opx o.op) 6=true:=by exact rfl)(h:R->QOk X o σ K:=by intro r;first|exact zk23 rfl r):QOk X o σ K:=h k
theorem zqo8{X:Cx}{σ:AS}{o:Oper}{K:AS->Prop}{R:Prop}(k:R)(_h0:Nat.beq (opx o.op) 8=true:=by exact rfl)(h:R->QOk X o σ K:=by intro r;first|exact zk26 r):QOk X o σ K:=h k
theorem zqo9{X:Cx}{σ:AS}{o:Oper}{K:AS->Prop}{R:Prop}(k:R)(_h0:Nat.beq (opx o.op) 8=true:=by exact rfl)(h:R->QOk X o σ K:=by intro r;first|exact zk27 r):QOk X o σ K:=h k
theorem zqo10{X:Cx}{σ:AS}{o:Oper}{K:AS->Prop}{R:Prop}(k:R)(_h0:Nat.beq (opx o.op) 4=true:=by exact rfl)(h:R->QOk X o σ K:=by intro r;first|exact zk33 rfl r|exact zk34 rfl r):QOk X o σ K:=h k
theorem zqo{X:Cx}{σ:AS}{o:Oper}{K:AS->Prop}{R:Prop}(k:R)(h:R->QOk X o σ K:=by intro r;first|exact zqo0 r|exact zqo1 r|exact zqo2 r|exact zqo3 r|exact zqo4 r|exact zqo5 r|exact zqo6 r|exact zqo8 r|exact zqo9 r|exact zqo10 r):QOk X o σ K:=h k
theorem zqn0{X:Cx}{σ:AS}{o:Oper}{K:AS->Prop}{R:Prop}(k:R)(_h0:Nat.beq (opx o.op) 0=true:=by exact rfl)(h:R->QOk X o σ K:=by intro r;first|exact zk3 r|exact zk4 r|exact zk5 r|exact zk6 r|exact zk10 r|exact zk19 r|exact zk28 QrQ (by kernel_rfl) r|exact zk29 QrQ (by kernel_rfl) r):QOk X o σ K:=h k
theorem zqn2{X:Cx}{σ:AS}{o:Oper}{K:AS->Prop}{R:Prop}(k:R)(_h0:Nat.beq (opx o.op) 3=true:=by exact rfl)(h:R->QOk X o σ K:=by intro r;first|exact zk13 rfl rfl rfl r|exact zk14 r|exact zk32 rfl rfl rfl r):QOk X o σ K:=h k
theorem zqn6{X:Cx}{σ:AS}{o:Oper}{K:AS->Prop}{R:Prop}(k:R)(_h0:Nat.beq (opx o.op) 6=true:=by exact rfl)(h:R->QOk X o σ K:=by intro r;first|exact zk23 rfl r):QOk X o σ K:=h k
theorem zqn10{X:Cx}{σ:AS}{o:Oper}{K:AS->Prop}{R:Prop}(k:R)(_h0:Nat.beq (opx o.op) 4=true:=by exact rfl)(h:R->QOk X o σ K:=by intro r;first|exact zk33 rfl r|exact zk34 rfl r):QOk X o σ K:=h k
theorem zqn{X:Cx}{σ:AS}{o:Oper}{K:AS->Prop}{R:Prop}(k:R)(h:R->QOk X o σ K:=by intro r;first|exact zqn0 r|exact zqn2 r|exact zqn6 r|exact zqn10 r):QOk X o σ K:=h k
theorem zom0{X:Cx}{σ:AS}{o:Oper}{K:AS->Prop}{R:Prop}(k:R)(_h0:Nat.beq (opx o.op) 8=true:=by exact rfl)(h:R->OpOk X o σ K:=by intro r;first|exact zk35 rfl rfl rfl r|exact zk36 rfl rfl rfl r|exact zk37 rfl rfl rfl r|exact zk38 rfl rfl rfl r|exact zk39 rfl rfl rfl r):OpOk X o σ K:=h k
theorem zom1{X:Cx}{σ:AS}{o:Oper}{K:AS->Prop}{R:Prop}(k:R)(_h0:Nat.beq (opx o.op) 9=true:=by exact rfl)(h:R->OpOk X o σ K:=by intro r;first|exact zk40 rfl rfl rfl r|exact zk42 rfl rfl rfl r):OpOk X o σ K:=h k
theorem zom2{X:Cx}{σ:AS}{o:Oper}{K:AS->Prop}{R:Prop}(k:R)(_h0:Nat.beq (opx o.op) 8=true:=by exact rfl)(h:R->OpOk X o σ K:=by intro r;first|exact zk41 rfl rfl rfl r):OpOk X o σ K:=h k
theorem zom3{X:Cx}{σ:AS}{o:Oper}{K:AS->Prop}{R:Prop}(k:R)(_h0:Nat.beq (opx o.op) 10=true:=by exact rfl)(h:R->OpOk X o σ K:=by intro r;first|exact zk43 rfl rfl rfl r):OpOk X o σ K:=h k
theorem zom4{X:Cx}{σ:AS}{o:Oper}{K:AS->Prop}{R:Prop}(k:R)(_h0:Nat.beq (opx o.op) 1=true:=by exact rfl)(h:R->OpOk X o σ K:=by intro r;first|exact zk44 r):OpOk X o σ K:=h k
theorem zom5{X:Cx}{σ:AS}{o:Oper}{K:AS->Prop}{R:Prop}(k:R)(_h0:Nat.beq (opx o.op) 11=true:=by exact rfl)(h:R->OpOk X o σ K:=by intro r;first|exact zk45 rfl r|exact zk46 rfl r):OpOk X o σ K:=h k
theorem zom{X:Cx}{σ:AS}{o:Oper}{K:AS->Prop}{R:Prop}(k:R)(h:R->OpOk X o σ K:=by intro r;first|exact zom0 r|exact zom1 r|exact zom2 r|exact zom3 r|exact zom4 r|exact zom5 r):OpOk X o σ K:=h k
theorem zopq{X:Cx}{σ:AS}{o:Oper}{K:AS->Prop}{R:Prop}(k:R)(_h0:isQ o.op=true:=by exact rfl)(h:R->QOk X o σ K:=by intro r;exact zqo r):OpOk X o σ K:=(h k).ok
theorem zop{G R:Prop}(k:R)(h:R->G:=by intro r;first|exact zom r|exact zopq r|exact zqo r):G:=h k
theorem zonq{X:Cx}{σ:AS}{o:Oper}{K:AS->Prop}{R:Prop}(k:R)(_h0:isQ o.op=true:=by exact rfl)(h:R->QOk X o σ K:=by intro r;exact zqn r):OpOk X o σ K:=(h k).ok
theorem zon{G R:Prop}(k:R)(h:R->G:=by intro r;first|exact zom r|exact zonq r|exact zqn r):G:=h k
theorem zsd{G R:Prop}(k:R)(h:R->G:=by intro r;first|exact zst r|exact zdr r):G:=h k
theorem zse{G R:Prop}(k:R)(h:R->G:=by intro r;first|exact zsr r|exact zdr r):G:=h k
theorem zqd{C G R:Prop}(c:C)(k:R)(h:C->R->G:=by intro c r;first|exact kc c rfl rfl r|exact kq c rfl rfl r):G:=h c k
theorem zqj{C G R:Prop}(c:C)(k:R)(h:C->R->G:=by intro c r;exact kc c rfl rfl r):G:=h c k
theorem ze2{A B G:Prop}(a:A)(b:B)(h:A->B->G:=by intro r s;first|exact And.intro r s|exact zei r s):G:=h a b
theorem ze3{p:Prop}(h:p:=by first|exact zes|exact ze0):p:=h
theorem ze4{G R:Prop}(k:R)(h:R->G:=by intro r;first|exact zet r|exact ze1 r):G:=h k
theorem ze5{p:Prop}(h:p:=by first|exact rfl|trivial):p:=h
theorem zp{p:Prop}(h:p):QjK p:=⟨h⟩
theorem zpp{p:Prop}(h:p):QaP p:=⟨h⟩
theorem zln{X:Cx}{σ:AS}{o:Oper}{K:AS->Prop}{p R:Prop}(k:p->R)(h:(p->R)->OpOk X o σ K:=by intro r;exact zgq (zk12 r)):OpOk X o σ K:=h k
theorem zqA{G R:Prop}(k:R)(h:R->G:=by intro r;first|exact kc (by assumption) rfl rfl r|exact kq (by assumption) rfl rfl r):G:=h k
theorem kmu{C G R:Prop}(c:C)(k:R)(h:C->R->G:=by intro c r;exact km [] c rfl rfl (fun _ _=>r)):G:=h c k
structure Zr (R:Prop):Prop where
 go:R
theorem zag{p R:Prop}(k:R)(h:Zr R->p:=by intro r;refine⟨rfl,?_,?_,rfl⟩;(repeat'(first|apply And.intro|exact ze0|refine ze1 ?_|refine zei ?_ ?_|exact rfl|exact True.intro));all_goals first|exact QjK.mk rfl|exact Zr.go r):p:=h ⟨k⟩
theorem zll{p:Prop}(h:p:=by exact⟨rfl,zae,zae,rfl⟩):p:=h
theorem zrr{p:Prop}(h:p:=by exact zr [] zae zae):p:=h
theorem zDR{p:Prop}(h:p:=by(show AWp _ _ _ _);refine QA ?_;apply Qs;exact zm () [] trivial zae zae zae):p:=h
theorem zUco{G R:Prop}(k:R)(h:R->G:=by intro r;first|exact zsc r|exact zop r|exact zqA r):G:=h k
theorem zUcp{G R:Prop}(k:R)(h:R->G:=by intro r;first|exact zsc r|exact zln r|exact zop r|exact zqA r):G:=h k
theorem zUr{G R:Prop}(k:R)(h:R->G:=by intro r;first|exact zsr r):G:=h k
theorem zUrn{G R:Prop}(k:R)(h:R->G:=by intro r;first|exact zsr r|exact zln r|exact zon r|exact zqA r):G:=h k
theorem zUro{G R:Prop}(k:R)(h:R->G:=by intro r;first|exact zsr r|exact zop r|exact zqA r):G:=h k
theorem zUrp{G R:Prop}(k:R)(h:R->G:=by intro r;first|exact zsr r|exact zln r|exact zop r|exact zqA r):G:=h k
theorem zUrd{G R:Prop}(k:R)(h:R->G:=by intro r;first|exact zsr r|exact zdr r|exact QaP.mk r):G:=h k
theorem QgS{G R:Prop}(k:R)(h:R->G:=by intro r;first|exact zsr r|exact zdr r|exact QaP.mk r|exact zln r|exact zon r|exact zqA r):G:=h k
theorem Qyk{G R:Prop}(k:R)(h:R->G:=by intro r;first|exact zsr r|exact zdr r|exact QaP.mk r|exact zop r|exact zqA r):G:=h k
theorem Q2{G R:Prop}(k:R)(h:R->G:=by intro r;first|exact zsr r|exact zdr r|exact QaP.mk r|exact zln r|exact zop r|exact zqA r):G:=h k
theorem QsV{G R:Prop}(k:R)(h:R->G:=by intro r;first|exact zsr r|exact zdr r):G:=h k
theorem zUt{G R:Prop}(k:R)(h:R->G:=by intro r;first|exact zst r):G:=h k
theorem zUtn{G R:Prop}(k:R)(h:R->G:=by intro r;first|exact zst r|exact zln r|exact zon r|exact zqA r):G:=h k
theorem zUto{G R:Prop}(k:R)(h:R->G:=by intro r;first|exact zst r|exact zop r|exact zqA r):G:=h k
theorem zUtp{G R:Prop}(k:R)(h:R->G:=by intro r;first|exact zst r|exact zln r|exact zop r|exact zqA r):G:=h k
theorem zUtd{G R:Prop}(k:R)(h:R->G:=by intro r;first|exact zst r|exact zdr r|exact QaP.mk r):G:=h k
theorem QxU{G R:Prop}(k:R)(h:R->G:=by intro r;first|exact zst r|exact zdr r|exact QaP.mk r|exact zln r|exact zon r|exact zqA r):G:=h k
theorem QcZ{G R:Prop}(k:R)(h:R->G:=by intro r;first|exact zst r|exact zdr r|exact QaP.mk r|exact zop r|exact zqA r):G:=h k
theorem Qd{G R:Prop}(k:R)(h:R->G:=by intro r;first|exact zst r|exact zdr r|exact QaP.mk r|exact zln r|exact zop r|exact zqA r):G:=h k
end
end Go.Proofs.YtkdniahincpmaaaGreat
