/-
  The rules with short names, their side conditions as default tactics (gensh.py writes this text).
-/
import Derived.Test.YtelbahebpmkfjaaGreatKB6
set_option maxRecDepth 100000
set_option maxHeartbeats 16000000
namespace Go.Proofs.YtelbahebpmkfjaaGreat
open Go Go.RowKit

theorem Qcj {X:Cx} {o:Oper} {σ:AS} {K:AS→Prop} (h:OpOk X o σ K):OpOk X o σ K:=h
def isQ:Op→Bool
 | .binOp ..=>true
 | .convert ..=>true
 | .index ..=>true
 | .indexAddr ..=>true
 | .load ..=>true
 | .slice ..=>true
 | .build ..=>true
 | .field ..=>true
 | .call { callee:=.builtin _,.. }=>true
 | _=>false
def opx:Op→Nat
 | .binOp ..=>0
 | .convert ..=>1
 | .index ..=>2
 | .indexAddr ..=>3
 | .load ..=>4
 | .slice ..=>5
 | .build ..=>6
 | .field ..=>7
 | .call { callee:=.builtin _,.. }=>8
 | .buildSlice ..=>9
 | .makeSlice ..=>10
 | .store ..=>11
 | _=>99
structure HopS (p:Prop):Prop where
 go:p
structure HopK (p:Prop):Prop where
 go:p
theorem QvC (p:Prop):HopK p=p:=propext ⟨fun x=>x.go,fun x=>⟨x⟩⟩
structure Sd (p:Prop):Prop where
 go:p
structure Hb (p G:Prop):Prop where
 go:p→G
section
variable {X:Cx} {σ:AS} {Q:Exit→AS→Prop}
theorem QxK {c:Operand} {x y:Code} {t:Bool} (hc:σ.ev c=.d (.b t)) (h1:Hb (t=true) (AWp X x Q σ)) (h2:Hb (t=false) (AWp X y Q σ)):AWp X (.cond c x y) Q σ:=QkD hc h1.go h2.go
theorem QxZ {ops:Array Oper} {o:Oper} {l:List Oper} {j d:Nat} {t t':Bool} (hg:o.guard=some (j,t)) (hd:(ops[j]?).bind (·.dst)=some d) (hv:look σ.sl d=.d (.b t'))
  (h1:Hb (t'=true) (Qat X ops (o::l) Q (σ.put d (.d (.b true))))) (h2:Hb (t'=false) (Qat X ops (o::l) Q (σ.put d (.d (.b false))))):Qat X ops (o::l) Q σ:=Qpi hg hd hv h1.go h2.go
theorem qs_x {ops:Array Oper} {N:AS→Prop} {o:Oper} {l:List Oper} {j d:Nat} {t t':Bool} (hg:o.guard=some (j,t)) (hd:(ops[j]?).bind (·.dst)=some d) (hv:look σ.sl d=.d (.b t'))
  (h1:Hb (t'=true) (QsOk X ops (o::l) N (σ.put d (.d (.b true))))) (h2:Hb (t'=false) (QsOk X ops (o::l) N (σ.put d (.d (.b false))))):QsOk X ops (o::l) N σ:=Qp7 hg hd hv h1.go h2.go
theorem ch_x {nt:Nat} {ops:Array Oper} {N:AS→Prop} {o:Oper} {l:List Oper} {acc:List (Nat×List Nat×Lo)} {i j d:Nat} {t t':Bool} (_hg:o.guard=some (j,t)) (_hd:(ops[j]?).bind (·.dst)=some d) (hv:look σ.sl d=.d (.b t'))
  (h1:Hb (t'=true) (ChA X nt ops N (o::l) acc i (σ.put d (.d (.b true))))) (h2:Hb (t'=false) (ChA X nt ops N (o::l) acc i (σ.put d (.d (.b false))))):ChA X nt ops N (o::l) acc i σ:=Qs8 hv h1.go h2.go
theorem zgr {id:Nat} {l:List Oper} {σ':AS} (h:Qat X l.toArray l Q σ') (hn:Qfo σ=some σ':=by exact rfl):AWp X (.region id l.toArray false) Q σ:=Qm8 hn h
theorem zga {ops:Array Oper} {o:Oper} {l:List Oper} {σ':AS} (hK:Qat X ops l Q σ') (h:aopG X ops o σ=some σ':=by exact rfl):Qat X ops (o::l) Q σ:=QvH h hK
theorem zgt {c:Operand} {x y:Code} (h1:AWp X x Q σ) (hc:σ.ev c=.d (.b true):=by exact rfl):AWp X (.cond c x y) Q σ:=QoW hc h1
theorem zgf {c:Operand} {x y:Code} (h1:AWp X y Q σ) (hc:σ.ev c=.d (.b false):=by exact rfl):AWp X (.cond c x y) Q σ:=Qpk hc h1
theorem zgo {ops:Array Oper} {o:Oper} {l:List Oper} (h:OpOk X o σ (Qat X ops l Q)) (hg:o.guard=none:=by exact rfl):Qat X ops (o::l) Q σ:=QkR hg h
theorem zgy {ops:Array Oper} {o:Oper} {l:List Oper} {j d:Nat} {t:Bool} (h:OpOk X o σ (Qat X ops l Q)) (hg:o.guard=some (j,t):=by exact rfl) (hd:(ops[j]?).bind (·.dst)=some d:=by exact rfl) (hv:look σ.sl d=.d (.b t):=by exact rfl):Qat X ops (o::l) Q σ:=Qnh hg hd hv h
theorem zsl {G:Prop} (h:G:=by repeat' (first|apply And.intro|exact Or.inl rfl|exact Or.inr ⟨rfl,rfl⟩|exact trivial)):G:=h
theorem zft {G:Prop} (h:G:=by repeat' (first|apply And.intro|exact trivial)):G:=h
theorem zst {G R:Prop} (k:R) (h:R→G:=by intro r;first|exact QkU r|exact zgr r|exact zga r|exact QmO r|exact zgt r|exact zgf r|exact Qiv r|exact QkC r|exact Qkb r|exact Qab r|exact zgo r|exact zgy r):G:=h k
theorem zsr {G R:Prop} (k:R) (h:R→G:=by intro r;first|exact QkU r|exact zgr r|exact zga r|exact QmO r|exact zgt r|exact zgf r|exact Qiv r|exact QkC r|exact Qkb r|exact zgo r|exact zgy r):G:=h k
theorem zsc {G R:Prop} (k:R) (h:R→G:=by intro r;first|exact QkU r|exact zgr r|exact zga r|exact QmO r|exact Qiv r|exact QkC r|exact Qkb r|exact Qab r|exact zgo r|exact zgy r):G:=h k
theorem zgq {o:Oper} {K:AS→Prop} (h:QOk X o σ K) (_h0:isQ o.op=true:=by exact rfl):OpOk X o σ K:=h.ok
theorem zgc {c:Operand} {x y:Code} {t:Bool} (h1:Hb (t=true) (AWp X x Q σ)) (h2:Hb (t=false) (AWp X y Q σ)) (hc:σ.ev c=.d (.b t):=by exact rfl):AWp X (.cond c x y) Q σ:=QxK hc h1 h2
theorem zgx {ops:Array Oper} {o:Oper} {l:List Oper} {j d:Nat} {t t':Bool} (h1:Hb (t'=true) (Qat X ops (o::l) Q (σ.put d (.d (.b true))))) (h2:Hb (t'=false) (Qat X ops (o::l) Q (σ.put d (.d (.b false))))) (hg:o.guard=some (j,t):=by exact rfl) (hd:(ops[j]?).bind (·.dst)=some d:=by exact rfl) (hv:look σ.sl d=.d (.b t'):=by (fail_if_success exact (rfl:_=AV.d (.b true)));(fail_if_success exact (rfl:_=AV.d (.b false)));exact rfl):Qat X ops (o::l) Q σ:=QxZ hg hd hv h1 h2
theorem zqx {ops:Array Oper} {N:AS→Prop} {o:Oper} {l:List Oper} {j d:Nat} {t t':Bool} (h1:Hb (t'=true) (QsOk X ops (o::l) N (σ.put d (.d (.b true))))) (h2:Hb (t'=false) (QsOk X ops (o::l) N (σ.put d (.d (.b false))))) (hg:o.guard=some (j,t):=by exact rfl) (hd:(ops[j]?).bind (·.dst)=some d:=by exact rfl) (hv:look σ.sl d=.d (.b t'):=by (fail_if_success exact (rfl:_=AV.d (.b true)));(fail_if_success exact (rfl:_=AV.d (.b false)));exact rfl):QsOk X ops (o::l) N σ:=qs_x hg hd hv h1 h2
theorem zcx {nt:Nat} {ops:Array Oper} {N:AS→Prop} {o:Oper} {l:List Oper} {acc:List (Nat×List Nat×Lo)} {i j d:Nat} {t t':Bool} (h1:Hb (t'=true) (ChA X nt ops N (o::l) acc i (σ.put d (.d (.b true))))) (h2:Hb (t'=false) (ChA X nt ops N (o::l) acc i (σ.put d (.d (.b false))))) (hg:o.guard=some (j,t):=by exact rfl) (hd:(ops[j]?).bind (·.dst)=some d:=by exact rfl) (hv:look σ.sl d=.d (.b t'):=by (fail_if_success exact (rfl:_=AV.d (.b true)));(fail_if_success exact (rfl:_=AV.d (.b false)));exact rfl):ChA X nt ops N (o::l) acc i σ:=ch_x hg hd hv h1 h2
theorem zcg {G:Prop} (h:G:=by refine ⟨rfl,?_,rfl,rfl⟩;first|exact Or.inl ⟨rfl,rfl⟩|exact Or.inr ⟨_,_,_,rfl,rfl,rfl,rfl⟩):G:=h
theorem zchG {nt:Nat} {ops:Array Oper} {N:AS→Prop} {o:Oper} {l:List Oper} {acc:List (Nat×List Nat×Lo)} {i:Nat} {gs rs:List (Nat×AV)} {ro ob' wo:List (Nat×AO)} {ch kl fr:List Nat} {v:AV}
  (h1:σ.nt=nt∧((o.guard=none∧gs=[])∨∃j d t,o.guard=some (j,t)∧(ops[j]?).bind (·.dst)=some d∧look σ.sl d=.d (.b t)∧gs=[(d,.d (.b t))])∧QeM σ o=some (rs,ro))
  (hop:HopS (∀(w0:World) (Z:ZV (freS kl ro)) (O:Nat→Prop),OpOk ⟨X.P,w0,freS kl ro,Z,O,X.tt⟩ o ⟨σ.nt,rs,ro⟩ (fun σ'=>HopK (σ'.nt=σ.nt∧Qft (dstV o σ') some=some v∧obsK σ'.ob some=some ob'))))
  {pr:List Nat} {σ':AS}
  (h2:Sd (wofr ro ch ob' [] []=some (wo,fr)∧(AS.closed ⟨σ.nt,rs,ro⟩&&QkL wo ob' (ro.filter fun y=>QbW kl y.1)&&chkW ob' ro&&chkW ob' wo&&chkM ro fr ob'&&(fr.all X.fre&&kl.all X.fre)&&fr.all fun p=>!hasN p σ.ob)=true∧
   allP (fun y=>Qam wo y.1=some y.2∨(Qam wo y.1=none∧(Qam ro y.1).map (AO.cut (QbW kl))=some y.2)) ob'∧allP (fun y=>Qjt y.2) ro∧QdQ (Qcq o acc) some=some pr∧
   (acc.all fun y=>(pr.any fun k=>Nat.beq k y.1)||ind y.2.2 ⟨gs++rs,ro,fr,o.dst,v,wo,kl⟩)=true∧(o.after.toList.all fun e=>!Region.binds .any e||Nat.blt e.on i)=true∧Qfo (Qjb σ ⟨gs++rs,ro,fr,o.dst,v,wo,kl⟩)=some σ'))
  (hK:ChA X nt ops N l ((i,pr,⟨gs++rs,ro,fr,o.dst,v,wo,kl⟩)::acc) (i+1) σ'):ChA X nt ops N (o::l) acc i σ:=by
 obtain ⟨a1,a2,a3⟩:=h1
 obtain ⟨b1,b2,b3,b4,b5,b6,b7,b8⟩:=h2.go
 have hop':=fun w0 Z O=>hop.go w0 Z O
 simp only [QvC] at hop'
 rcases a2 with ⟨c1,c2⟩|⟨j,d,t,c1,c2,c3,c4⟩
 ·subst c2
  exact QwE a1 c1 a3 hop' b1 b2 b3 b4 b5 b6 b7 b8 hK
 ·subst c4
  exact QwY a1 c1 c2 c3 a3 hop' b1 b2 b3 b4 b5 b6 b7 b8 hK
theorem zch {nt:Nat} {ops:Array Oper} {N:AS→Prop} {o:Oper} {l:List Oper} {acc:List (Nat×List Nat×Lo)} {i:Nat} {gs rs:List (Nat×AV)} {ro ob' wo:List (Nat×AO)} {ch kl fr:List Nat} {v:AV}
  (h1:σ.nt=nt∧((o.guard=none∧gs=[])∨∃j d t,o.guard=some (j,t)∧(ops[j]?).bind (·.dst)=some d∧look σ.sl d=.d (.b t)∧gs=[(d,.d (.b t))])∧QeM σ o=some (rs,ro)∧Qx5 o rs=some (ch,kl))
  (hop:HopS (∀(w0:World) (Z:ZV (freS kl ro)) (O:Nat→Prop),OpOk ⟨X.P,w0,freS kl ro,Z,O,X.tt⟩ o ⟨σ.nt,rs,ro⟩ (fun σ'=>HopK (σ'.nt=σ.nt∧Qft (dstV o σ') some=some v∧obsK σ'.ob some=some ob'))))
  {pr:List Nat} {σ':AS}
  (h2:Sd (wofr ro ch ob' [] []=some (wo,fr)∧(AS.closed ⟨σ.nt,rs,ro⟩&&QkL wo ob' (ro.filter fun y=>QbW kl y.1)&&chkW ob' ro&&chkW ob' wo&&chkM ro fr ob'&&(fr.all X.fre&&kl.all X.fre)&&fr.all fun p=>!hasN p σ.ob)=true∧
   allP (fun y=>Qam wo y.1=some y.2∨(Qam wo y.1=none∧(Qam ro y.1).map (AO.cut (QbW kl))=some y.2)) ob'∧allP (fun y=>Qjt y.2) ro∧QdQ (Qcq o acc) some=some pr∧
   (acc.all fun y=>(pr.any fun k=>Nat.beq k y.1)||ind y.2.2 ⟨gs++rs,ro,fr,o.dst,v,wo,kl⟩)=true∧(o.after.toList.all fun e=>!Region.binds .any e||Nat.blt e.on i)=true∧Qfo (Qjb σ ⟨gs++rs,ro,fr,o.dst,v,wo,kl⟩)=some σ'))
  (hK:ChA X nt ops N l ((i,pr,⟨gs++rs,ro,fr,o.dst,v,wo,kl⟩)::acc) (i+1) σ'):ChA X nt ops N (o::l) acc i σ:=zchG ⟨h1.1,h1.2.1,h1.2.2.1⟩ hop h2 hK
theorem zchE {nt:Nat} {ops:Array Oper} {N:AS→Prop} {o:Oper} {l:List Oper} {acc:List (Nat×List Nat×Lo)} {i:Nat} {gs rs:List (Nat×AV)} {ro ob' wo:List (Nat×AO)} {ch kl fr:List Nat} {v:AV}
  (h1:σ.nt=nt∧((o.guard=none∧gs=[])∨∃j d t,o.guard=some (j,t)∧(ops[j]?).bind (·.dst)=some d∧look σ.sl d=.d (.b t)∧gs=[(d,.d (.b t))])∧QeM σ o=some (rs,ro)∧tgtE o rs=some (ch,kl))
  (hop:HopS (∀(w0:World) (Z:ZV (freS kl ro)) (O:Nat→Prop),OpOk ⟨X.P,w0,freS kl ro,Z,O,X.tt⟩ o ⟨σ.nt,rs,ro⟩ (fun σ'=>HopK (σ'.nt=σ.nt∧Qft (dstV o σ') some=some v∧obsK σ'.ob some=some ob'))))
  {pr:List Nat} {σ':AS}
  (h2:Sd (wofr ro ch ob' [] []=some (wo,fr)∧(AS.closed ⟨σ.nt,rs,ro⟩&&QkL wo ob' (ro.filter fun y=>QbW kl y.1)&&chkW ob' ro&&chkW ob' wo&&chkM ro fr ob'&&(fr.all X.fre&&kl.all X.fre)&&fr.all fun p=>!hasN p σ.ob)=true∧
   allP (fun y=>Qam wo y.1=some y.2∨(Qam wo y.1=none∧(Qam ro y.1).map (AO.cut (QbW kl))=some y.2)) ob'∧allP (fun y=>Qjt y.2) ro∧QdQ (Qcq o acc) some=some pr∧
   (acc.all fun y=>(pr.any fun k=>Nat.beq k y.1)||ind y.2.2 ⟨gs++rs,ro,fr,o.dst,v,wo,kl⟩)=true∧(o.after.toList.all fun e=>!Region.binds .any e||Nat.blt e.on i)=true∧Qfo (Qjb σ ⟨gs++rs,ro,fr,o.dst,v,wo,kl⟩)=some σ'))
  (hK:ChA X nt ops N l ((i,pr,⟨gs++rs,ro,fr,o.dst,v,wo,kl⟩)::acc) (i+1) σ'):ChA X nt ops N (o::l) acc i σ:=zchG ⟨h1.1,h1.2.1,h1.2.2.1⟩ hop h2 hK
theorem zhk {G:Prop} (h:G:=by first|exact HopK.mk ⟨rfl,rfl,rfl⟩|exact Sd.mk ⟨rfl,rfl,zsl,zft,rfl,rfl,rfl,rfl⟩):G:=h
theorem zdr {G R:Prop} (k:R) (h:R→G:=by intro r;first|(apply Qsx;exact rfl;kernel_rfl;kernel_rfl;exact rfl;exact r)|(apply QrC;exact rfl;kernel_rfl;exact rfl;exact r)|(apply Qwc;exact rfl;exact r)|exact Qw5 r|(apply QxD;exact rfl;exact r)|(apply QxR;(iterate 10 exact rfl);exact r)|(apply Qr5;exact rfl;exact r)|(apply QrF;exact rfl;exact rfl;exact rfl;exact r)|(apply Qoo;exact rfl;exact r)):G:=h k
theorem zg2 {G R S:Prop} (a:R) (b:S) (h:R→S→G:=by intro r s;first|exact zgc r s|exact zgx r s):G:=h a b
theorem zg3 {G R S:Prop} (a:R) (b:S) (h:R→S→G:=by intro r s;first|exact zcx r s|exact zgc r s|exact zgx r s|exact zqx r s):G:=h a b
theorem zab {G:Prop} (h:G:=by first|omega|exact absurd rfl hb):G:=h
theorem zr {fn:Func} {rs:List AV} {rob:List (Nat×AO)} (ρ:List Nat) (h3:QgV X σ fn.results.toList (renL ρ rs)) (h4:Qq1 σ ρ 0 rob) (h1:Qci ρ=true:=by exact rfl) (h2:naL ρ.length rs=true:=by exact rfl):Stop (retQ X fn rs rob .ret σ):=⟨QqQ ρ h1 h2 h3 h4⟩
theorem zm {ι:Type} {fn:Func} {ok:ι→Prop} {rs:ι→List AV} {obs' rob:ι→List (Nat×AO)} (i:ι) (ρ:List Nat) (h0:ok i) (h2:QgV X σ fn.results.toList (Qhl ρ (rs i))) (h3:Qfu σ ρ 0 (rob i)) (h4:obLe σ (obs' i))
  (h1:(Qci ρ&&naL2 ρ.length (fun k=>hasN k (obs' i)) (rs i)&&boxB (rob i)&&(ρ.all fre0)&&((rob i).all fun y=>fre0 y.1)&&Qdb (obs' i)&&((obs' i).all fun y=>!fre0 y.1))=true:=by exact rfl):Stop (retM X fn ok rs obs' rob .ret σ):=⟨Qeh i ρ h0 h1 h2 h3 h4⟩
theorem zn {ι:Type} {fn:Func} {ok:ι→Prop} {rs:ι→List AV} {fin:ι→List (Nat×AO)} (i:ι) (ρ:List Nat) (h0:ok i) (h2:QgV X σ fn.results.toList (QgG (gamN ρ) (rs i))) (h3:Qo8 σ ρ (fin i)) (h1:finB ρ (rs i) (fin i)=true:=by exact rfl):Stop (retN X fn ok rs fin .ret σ):=⟨i,ρ,h0,h1,h2,h3⟩
theorem zd {fn:Func} {rs:Unit→List AV} {obs' rob:Unit→List (Nat×AO)} (ρ:List Nat) (h2:QgV X σ.dena fn.results.toList (Qhl ρ (rs ()))) (h3:Qfu σ.dena ρ 0 (rob ())) (h4:obLe σ.dena (obs' ()))
  (h1:(Qci ρ&&naL2 ρ.length (fun k=>hasN k (obs' ())) (rs ())&&boxB (rob ())&&(ρ.all fre0)&&((rob ()).all fun y=>fre0 y.1)&&Qdb (obs' ())&&((obs' ()).all fun y=>!fre0 y.1))=true:=by exact rfl):AWp X .ret (retM X fn (fun _:Unit=>True) rs obs' rob) σ:=Qac (Qh7 (Qeh () ρ trivial h1 h2 h3 h4))
end
class HbT (p:Prop) (q:outParam Prop):Prop where
 to:p→q
instance (priority:=low) (p:Prop):HbT p p:=⟨id⟩
instance (p:Prop) [Decidable p]:HbT (decide p=true) p:=⟨of_decide_eq_true⟩
instance (p:Prop) [Decidable p]:HbT (decide p=false) (¬p):=⟨of_decide_eq_false⟩
instance {α:Type} [BEq α] [LawfulBEq α] (x y:α):HbT ((x==y)=true) (x=y):=⟨fun h=>beq_iff_eq.1 h⟩
instance {α:Type} [BEq α] [LawfulBEq α] (x y:α):HbT ((x==y)=false) (x≠y):=⟨fun h=>beq_eq_false_iff_ne.1 h⟩
instance {α:Type} [BEq α] [LawfulBEq α] (x y:α):HbT ((x != y)=true) (x≠y):=⟨fun h=>bne_iff_ne.1 h⟩
instance {α:Type} [BEq α] [LawfulBEq α] (x y:α):HbT ((x != y)=false) (x=y):=⟨fun h=>bne_eq_false_iff_eq.1 h⟩
instance (b:Bool):HbT ((!b)=true) (b=false):=⟨fun h=>by cases b with|false=>rfl|true=>cases h⟩
instance (b:Bool):HbT ((!b)=false) (b=true):=⟨fun h=>by cases b with|true=>rfl|false=>cases h⟩
theorem zhm {p q G:Prop} [i:HbT p q] (h:q→G):Hb p G:=⟨fun x=>h (i.to x)⟩
theorem zeb {x:AV} {p q:Bool} (h:x=.d (.b p):=by exact rfl) (h2:p=q:=by with_reducible rfl):x=.d (.b q):=by rw [h,h2]
theorem zec {x:AV} {p q:Bool} (h2:Stop (p=q)) (h:x=.d (.b p):=by exact rfl):x=.d (.b q):=eq_b h h2
theorem zen {x:AV} {k:IntKind} {p q:Int} (h:x=.d (.n k p):=by exact rfl) (h2:p=q:=by first|with_reducible rfl|omega):x=.d (.n k q):=by rw [h,h2]
theorem zeo {x:AV} {k:IntKind} {p q:Int} (h2:Stop (p=q)) (h:x=.d (.n k p):=by exact rfl):x=.d (.n k q):=eq_n h h2
theorem zes {x:AV} {p q:List UInt8} (h:x=.d (.s p):=by exact rfl) (h2:p=q:=by with_reducible rfl):x=.d (.s q):=by rw [h,h2]
theorem zet {x:AV} {p q:List UInt8} (h2:Stop (p=q)) (h:x=.d (.s p):=by exact rfl):x=.d (.s q):=eq_s h h2
theorem zel {x:AV} {p q:List (List D)} (h:x=.d (.sl p):=by exact rfl) (h2:p=q:=by with_reducible rfl):x=.d (.sl q):=by rw [h,h2]
theorem zem {x:AV} {p q:List (List D)} (h2:Stop (p=q)) (h:x=.d (.sl p):=by exact rfl):x=.d (.sl q):=Qx8 h h2
theorem zep {x:Option AO} {e:TypeId} {p q:List (List D)} {d:Bool} (h:x=some (.row e p d):=by exact rfl) (h2:p=q:=by with_reducible rfl):x=some (.row e q d):=by rw [h,h2]
theorem zeq1 {x:Option AO} {e:TypeId} {p q:List (List D)} {d:Bool} (h2:Stop (p=q)) (h:x=some (.row e p d):=by exact rfl):x=some (.row e q d):=Qxp h h2
theorem zea {x:AV} {p q:List AV} (h2:p=q) (h:x=.agg p:=by exact rfl):x=.agg q:=QwR h h2
theorem zei {l:List AV} {x y:AV} {p q:List AV} (h1:x=y) (h2:p=q) (h:l=x::p:=by exact rfl):l=y::q:=Qve h h1 h2
theorem zca {X:Cx} {σ:AS} {t:Nat} {T:TypeId} {v:AV} {xs:List AV} [ti:TI X.P T] (ha:Qbp ti.desc=true:=by exact rfl) (hx:(σ.at (look σ.sl t)).map (List.take ti.size)=some xs:=by exact rfl) (hl:Nat.beq xs.length ti.size=true:=by exact rfl) (hv:AV.agg xs=v):Qrj X σ t T v:=Qco ha hx hl hv
theorem zex {x:Option AO} {e:TypeId} {p q:List AV} (h2:p=q) (h:x=some (.box e p):=by exact rfl):x=some (.box e q):=Qvq h h2
theorem ze0 {p:Prop} (h:p:=by first|exact zeb|exact zen|exact zel|exact zep):p:=h
theorem ze1 {G R:Prop} (k:R) (h:R→G:=by intro r;first|exact zec r|exact zeo r|exact zem r|exact zeq1 r|exact zea r|exact zex r|exact zca (hv:=r)):G:=h k
theorem zae {p:Prop} (h:p:=by (repeat' (first|apply And.intro|exact ze0|refine ze1 ?_|refine zei ?_ ?_|exact rfl|trivial));all_goals exact Stop.mk rfl):p:=h
section
variable {X:Cx} {σ:AS} {o:Oper} {K:AS→Prop} {t:Nat} {p q:Int} {m n:Nat} {xt yt:TypeId} {x y:Operand}
theorem zk0 (hK:K (σ.put t (.d (.n .i64 ((m+n:Nat):Int))))) (ho:o.op=.binOp .add xt x y yt:=by exact rfl) (hd:o.dst=some t:=by exact rfl) (hx:σ.ev x=.d (.n .i64 p):=by exact rfl) (hp:p=(m:Int):=by first|with_reducible rfl|exact nlit _|exact (Int.toNat_of_nonneg (by omega)).symm|rfl) (hy:σ.ev y=.d (.n .i64 q):=by exact rfl) (hq:q=(n:Int):=by first|with_reducible rfl|exact nlit _|exact (Int.toNat_of_nonneg (by omega)).symm|rfl) (hb:m+n≤9223372036854775807:=by omega) (ht:Nat.blt t σ.nt=true:=by exact rfl):QOk X o σ K:=Qvx ho hd hx hp hy hq hb ht hK
end
section
variable {X:Cx} {σ:AS} {o:Oper} {K:AS→Prop} {t:Nat} {p q:Int} {m n:Nat} {xt yt:TypeId} {x y:Operand}
theorem zk1 (hK:K (σ.put t (.d (.n .i64 ((m - n:Nat):Int))))) (ho:o.op=.binOp .sub xt x y yt:=by exact rfl) (hd:o.dst=some t:=by exact rfl) (hx:σ.ev x=.d (.n .i64 p):=by exact rfl) (hp:p=(m:Int):=by first|with_reducible rfl|exact nlit _|exact (Int.toNat_of_nonneg (by omega)).symm|rfl) (hy:σ.ev y=.d (.n .i64 q):=by exact rfl) (hq:q=(n:Int):=by first|with_reducible rfl|exact nlit _|exact (Int.toNat_of_nonneg (by omega)).symm|rfl) (hb:n≤m∧m≤9223372036854775807:=by omega) (ht:Nat.blt t σ.nt=true:=by exact rfl):QOk X o σ K:=QwD ho hd hx hp hy hq hb ht hK
end
section
variable {X:Cx} {σ:AS} {o:Oper} {K:AS→Prop} {t:Nat} {p q:Int} {m n:Nat} {xt yt:TypeId} {x y:Operand}
end
section
variable {X:Cx} {σ:AS} {o:Oper} {K:AS→Prop} {t:Nat} {p q:Int} {m n:Nat} {xt yt:TypeId} {x y:Operand}
theorem zk3 (hK:K (σ.put t (.d (.n .i64 ((m / n:Nat):Int))))) (ho:o.op=.binOp .quo xt x y yt:=by exact rfl) (hd:o.dst=some t:=by exact rfl) (hx:σ.ev x=.d (.n .i64 p):=by exact rfl) (hp:p=(m:Int):=by first|with_reducible rfl|exact nlit _|exact (Int.toNat_of_nonneg (by omega)).symm|rfl) (hy:σ.ev y=.d (.n .i64 q):=by exact rfl) (hq:q=(n:Int):=by first|with_reducible rfl|exact nlit _|exact (Int.toNat_of_nonneg (by omega)).symm|rfl) (hb:0<n∧m≤9223372036854775807:=by omega) (ht:Nat.blt t σ.nt=true:=by exact rfl):QOk X o σ K:=Qwm ho hd hx hp hy hq hb ht hK
end
section
variable {X:Cx} {σ:AS} {o:Oper} {K:AS→Prop} {t:Nat} {p q:Int} {m n:Nat} {xt yt:TypeId} {x y:Operand}
theorem zk4 (hK:K (σ.put t (.d (.n .i64 ((m % n:Nat):Int))))) (ho:o.op=.binOp .rem xt x y yt:=by exact rfl) (hd:o.dst=some t:=by exact rfl) (hx:σ.ev x=.d (.n .i64 p):=by exact rfl) (hp:p=(m:Int):=by first|with_reducible rfl|exact nlit _|exact (Int.toNat_of_nonneg (by omega)).symm|rfl) (hy:σ.ev y=.d (.n .i64 q):=by exact rfl) (hq:q=(n:Int):=by first|with_reducible rfl|exact nlit _|exact (Int.toNat_of_nonneg (by omega)).symm|rfl) (hb:0<n:=by omega) (ht:Nat.blt t σ.nt=true:=by exact rfl):QOk X o σ K:=Qvt ho hd hx hp hy hq hb ht hK
end
section
variable {X:Cx} {σ:AS} {o:Oper} {K:AS→Prop} {t:Nat} {p q:Int} {xt yt:TypeId} {x y:Operand}
theorem zk5 (hK:K (σ.put t (.d (.n .i64 (p+q))))) (ho:o.op=.binOp .add xt x y yt:=by exact rfl) (hd:o.dst=some t:=by exact rfl) (hx:σ.ev x=.d (.n .i64 p):=by exact rfl) (hy:σ.ev y=.d (.n .i64 q):=by exact rfl) (hb : -9223372036854775808≤p+q∧p+q≤9223372036854775807:=by omega) (ht:Nat.blt t σ.nt=true:=by exact rfl):QOk X o σ K:=Qu5 ho hd hx hy hb ht hK
end
section
variable {X:Cx} {σ:AS} {o:Oper} {K:AS→Prop} {t:Nat} {p q:Int} {xt yt:TypeId} {x y:Operand}
theorem zk6 (hK:K (σ.put t (.d (.n .i64 (p - q))))) (ho:o.op=.binOp .sub xt x y yt:=by exact rfl) (hd:o.dst=some t:=by exact rfl) (hx:σ.ev x=.d (.n .i64 p):=by exact rfl) (hy:σ.ev y=.d (.n .i64 q):=by exact rfl) (hb : -9223372036854775808≤p - q∧p - q≤9223372036854775807:=by omega) (ht:Nat.blt t σ.nt=true:=by exact rfl):QOk X o σ K:=QuZ ho hd hx hy hb ht hK
end
section
variable {X:Cx} {σ:AS} {o:Oper} {K:AS→Prop} {t:Nat} {p q:Int} {xt yt:TypeId} {x y:Operand}
end
section
variable {X:Cx} {σ:AS} {o:Oper} {K:AS→Prop} {t:Nat} {p q:Int} {xt yt:TypeId} {x y:Operand}
end
section
variable {X:Cx} {σ:AS} {o:Oper} {K:AS→Prop} {t:Nat} {p q:Int} {xt yt:TypeId} {x y:Operand}
end
section
variable {X:Cx} {σ:AS} {o:Oper} {K:AS→Prop} {t:Nat} {p q:Int} {xt yt:TypeId} {x y:Operand}
end
section
variable {X:Cx} {σ:AS} {o:Oper} {K:AS→Prop} {t:Nat}
end
section
variable {X:Cx} {σ:AS} {o:Oper} {K:AS→Prop} {t:Nat}
theorem zk12 {x:Operand} {T e:TypeId} {es:List (List D)} {n:Nat} (hK:n≤9223372036854775807→K (σ.put t (.d (.n .i64 n)))) (ho:o.op=.call { callee:=.builtin .len,args:=#[x],argTypes:=#[T] }:=by exact rfl) (hd:o.dst=some t:=by exact rfl) (hT:QaZ X T=some e:=by exact rfl) (hx:σ.els (σ.ev x)=some es:=by exact rfl) (hn:es.length=n:=by first|exact List.length_map _|exact QaE _|exact Qad _|exact (rfl:_=1)|exact (rfl:_=0)|exact (rfl:_=2)|exact (rfl:_=3)|assumption|exact List.length_set.trans (List.length_map _)|exact (List.length_set.trans List.length_set).trans (List.length_map _)|rfl) (ht:Nat.blt t σ.nt=true:=by exact rfl):QOk X o σ K:=Qxg ho hd hT hx hn ht hK
end
section
variable {X:Cx} {σ:AS} {o:Oper} {K:AS→Prop} {t:Nat}
theorem zk13 {T e:TypeId} {x y:Operand} {es:List (List D)} {el:List D} {i:Int} {j n:Nat} [te:TI X.P e] (ho:o.op=.indexAddr T x y) (hd:o.dst=some t) (hT:QaZ X T=some e) (hK:K (σ.put t (.pd el 0))) (hx:σ.ev x=.d (.sl es):=by exact rfl) (hy:σ.ev y=.d (.n .i64 i):=by exact rfl) (hj:i=(j:Int):=by first|with_reducible rfl|exact nlit _|exact (Int.toNat_of_nonneg (by omega)).symm|rfl) (hn:es.length=n:=by first|exact List.length_map _|exact QaE _|exact Qad _|exact (rfl:_=1)|exact (rfl:_=0)|exact (rfl:_=2)|exact (rfl:_=3)|assumption|exact List.length_set.trans (List.length_map _)|exact (List.length_set.trans List.length_set).trans (List.length_map _)|rfl) (hlt:j<n:=by first|omega|decide) (hel:es[j]?=some el:=by first|exact QeK (by omega)|rfl) (hz:Nat.beq el.length te.size=true:=by exact rfl) (ht:Nat.blt t σ.nt=true:=by exact rfl):QOk X o σ K:=Qqk ho hd hT hx hy hj hn hlt hel hz ht hK
end
section
variable {X:Cx} {σ:AS} {o:Oper} {K:AS→Prop} {t:Nat}
theorem zk14 {T e:TypeId} {x y:Operand} {p:Nat} {es:List (List D)} {dp:Bool} {i:Int} {j n:Nat} (hK:K (σ.put t (.pr p j 0))) (ho:o.op=.indexAddr T x y:=by exact rfl) (hd:o.dst=some t:=by exact rfl) (hT:QaZ X T=some e:=by exact rfl) (hx:σ.ev x=.row p:=by exact rfl) (hp:Qam σ.ob p=some (.row e es dp):=by exact rfl) (hy:σ.ev y=.d (.n .i64 i):=by exact rfl) (hj:i=(j:Int):=by first|with_reducible rfl|exact nlit _|exact (Int.toNat_of_nonneg (by omega)).symm|rfl) (hn:es.length=n:=by first|exact List.length_map _|exact QaE _|exact Qad _|exact (rfl:_=1)|exact (rfl:_=0)|exact (rfl:_=2)|exact (rfl:_=3)|assumption|exact List.length_set.trans (List.length_map _)|exact (List.length_set.trans List.length_set).trans (List.length_map _)|rfl) (hlt:j<n:=by first|omega|decide) (ht:Nat.blt t σ.nt=true:=by exact rfl):QOk X o σ K:=Quh ho hd hT hx hp hy hj hn hlt ht hK
end
section
variable {X:Cx} {σ:AS} {o:Oper} {K:AS→Prop} {t:Nat}
end
section
variable {X:Cx} {σ:AS} {o:Oper} {K:AS→Prop} {t:Nat}
theorem zk16 {T e:TypeId} {x:Operand} {low high:Option Operand} {es:List (List D)} {n i j:Nat} {p q:Int} [te:TI X.P e] (ho:o.op=.slice T x low high none) (hd:o.dst=some t) (hT:QaZ X T=some e) (hK:K (σ.put t (.d (.sl ((es.take j).drop i))))) (hx:σ.ev x=.d (.sl es):=by exact rfl) (hn:es.length=n:=by first|exact List.length_map _|exact QaE _|exact Qad _|exact (rfl:_=1)|exact (rfl:_=0)|exact (rfl:_=2)|exact (rfl:_=3)|assumption|exact List.length_set.trans (List.length_map _)|exact (List.length_set.trans List.length_set).trans (List.length_map _)|rfl) (hlo:σ.low low=some p:=by exact rfl) (hi:p=(i:Int):=by first|with_reducible rfl|exact nlit _|exact (Int.toNat_of_nonneg (by omega)).symm|rfl) (hhi:σ.high n high=some q:=by exact rfl) (hj:q=(j:Int):=by first|with_reducible rfl|exact nlit _|exact (Int.toNat_of_nonneg (by omega)).symm|rfl) (hb:i≤j∧j≤n:=by omega) (hz:lenE es te.size:=by first|exact Qga rfl|exact QfW (fun _=>rfl)) (ht:Nat.blt t σ.nt=true:=by exact rfl):QOk X o σ K:=QrT ho hd hT hx hn hlo hi hhi hj hb hz ht hK
end
section
variable {X:Cx} {σ:AS} {o:Oper} {K:AS→Prop} {Q:Exit→AS→Prop} {t:Nat}
theorem zk17 {src dst e:TypeId} {x:Operand} {es:List (List D)} {l:List UInt8} (hK:K (σ.put t (.d (.s l)))) (ho:o.op=.convert src dst x:=by exact rfl) (hd:o.dst=some t:=by exact rfl) (hT:QaZ X src=some e:=by exact rfl) (he:QtD X e=true:=by exact rfl) (hs:Qkr X dst=true:=by exact rfl) (hx:σ.els (σ.ev x)=some es:=by exact rfl) (hl:es=QcP l:=by first|rfl|exact QlZ (by omega)) (ht:Nat.blt t σ.nt=true:=by exact rfl):QOk X o σ K:=Qup ho hd hT he hs hx hl ht hK
end
section
variable {X:Cx} {σ:AS} {o:Oper} {K:AS→Prop} {Q:Exit→AS→Prop} {t:Nat}
end
section
variable {X:Cx} {σ:AS} {o:Oper} {K:AS→Prop} {Q:Exit→AS→Prop} {t:Nat}
theorem zk19 {l r:List UInt8} {xt yt:TypeId} {x y:Operand} (hK:K (σ.put t (.d (.s (l++r))))) (ho:o.op=.binOp .add xt x y yt:=by exact rfl) (hd:o.dst=some t:=by exact rfl) (hx:σ.ev x=.d (.s l):=by exact rfl) (hy:σ.ev y=.d (.s r):=by exact rfl) (hb:l.length+r.length≤9223372036854775807:=by first|omega|(simp only [List.length_cons,List.length_nil];omega)|(simp only [List.length_append];omega)|(simp only [List.length_append,List.length_cons,List.length_nil];omega)) (ht:Nat.blt t σ.nt=true:=by exact rfl):QOk X o σ K:=Qwz ho hd hx hy hb ht hK
end
section
variable {X:Cx} {σ:AS} {o:Oper} {K:AS→Prop} {Q:Exit→AS→Prop} {t:Nat}
theorem zk20 {src dst:TypeId} {k:IntKind} {x:Operand} {p:Int} (hK:K (σ.put t (.d (.n .u8 p)))) (ho:o.op=.convert src dst x:=by exact rfl) (hd:o.dst=some t:=by exact rfl) (hs:hasT X src=true:=by exact rfl) (hT:intT X dst=some .u8:=by exact rfl) (hx:σ.ev x=.d (.n k p):=by exact rfl) (hb:0≤p∧p≤255:=by omega) (ht:Nat.blt t σ.nt=true:=by exact rfl):QOk X o σ K:=QtM ho hd hs hT hx hb ht hK
end
section
variable {X:Cx} {σ:AS} {o:Oper} {K:AS→Prop} {t:Nat}
end
section
variable {X:Cx} {σ:AS} {o:Oper} {K:AS→Prop} {Q:Exit→AS→Prop} {t:Nat}
end
section
variable {X:Cx} {σ:AS} {o:Oper} {K:AS→Prop} {t:Nat}
theorem zk23 {T:TypeId} {parts:Array (Nat×Operand)} {fs:List Field} {pl:List (Nat×Nat)} {cs:List AV} [ti:TI X.P T] (ho:o.op=.build T parts) (hK:K (σ.put t (.agg cs))) (hd:o.dst=some t:=by exact rfl) (hfs:Qcr ti.desc=some fs:=by exact rfl) (hpl:QiR X fs=some pl:=by exact rfl) (hcs:QqL pl (Qde ti.zero) (σ.evParts parts.toList)=some cs:=by exact rfl) (ht:Nat.blt t σ.nt=true:=by exact rfl):QOk X o σ K:=Qus ho hd hfs hpl hcs ht hK
end
section
variable {X:Cx} {σ:AS} {o:Oper} {K:AS→Prop} {t:Nat}
end
section
variable {X:Cx} {σ:AS} {o:Oper} {K:AS→Prop} {t:Nat}
end
section
variable {X:Cx} {σ:AS} {o:Oper} {K:AS→Prop} {t:Nat}
theorem zk26 {x y:Operand} {T1 T2:TypeId} {p q:Int} (hK:K (σ.put t (.d (.n .i64 (min p q))))) (ho:o.op=.call { callee:=.builtin .min,args:=#[x,y],argTypes:=#[T1,T2] }:=by exact rfl) (hd:o.dst=some t:=by exact rfl) (hx:σ.ev x=.d (.n .i64 p):=by exact rfl) (hy:σ.ev y=.d (.n .i64 q):=by exact rfl) (ht:Nat.blt t σ.nt=true:=by exact rfl):QOk X o σ K:=Qxm ho hd hx hy ht hK
end
section
variable {X:Cx} {σ:AS} {o:Oper} {K:AS→Prop} {t:Nat}
end
section
variable {X:Cx} {σ:AS} {o:Oper} {K:AS→Prop} {t:Nat}
theorem zk28 {T yt:TypeId} {x y:Operand} {xs ys:List AV} {b:Bool} {ti:TI X.P T} {ns:List Nat} (hc:(ns.all fun T=>!X.P.stoodInHeld T)=true) (hg:X.P.eqGuardType X.P.depth T=false) (hK:K (σ.put t (.d (.b b)))) (ho:o.op=.binOp .eql T x y yt:=by exact rfl) (hd:o.dst=some t:=by exact rfl) (hx:σ.ev x=.agg xs:=by exact rfl) (hy:σ.ev y=.agg ys:=by exact rfl) (htt:X.tt T=some ti:=by exact rfl) (hst:(Qcr ti.desc).isSome=true:=by exact rfl) (hb:eqT X ns 100 T xs ys=some b:=by exact rfl) (ht:Nat.blt t σ.nt=true:=by exact rfl):QOk X o σ K:=QsK hc hg ho hd hx hy htt hst hb ht hK
end
section
variable {X:Cx} {σ:AS} {o:Oper} {K:AS→Prop} {t:Nat}
theorem zk29 {T yt:TypeId} {x y:Operand} {xs ys:List AV} {b:Bool} {ti:TI X.P T} {ns:List Nat} (hc:(ns.all fun T=>!X.P.stoodInHeld T)=true) (hg:X.P.eqGuardType X.P.depth T=false) (hK:K (σ.put t (.d (.b (!b))))) (ho:o.op=.binOp .neq T x y yt:=by exact rfl) (hd:o.dst=some t:=by exact rfl) (hx:σ.ev x=.agg xs:=by exact rfl) (hy:σ.ev y=.agg ys:=by exact rfl) (htt:X.tt T=some ti:=by exact rfl) (hst:(Qcr ti.desc).isSome=true:=by exact rfl) (hb:eqT X ns 100 T xs ys=some b:=by exact rfl) (ht:Nat.blt t σ.nt=true:=by exact rfl):QOk X o σ K:=QsU hc hg ho hd hx hy htt hst hb ht hK
end
section
variable {X:Cx} {σ:AS} {o:Oper} {K:AS→Prop} {t:Nat}
theorem zk30 {T e:TypeId} {x:Operand} {low high:Option Operand} {p n i j:Nat} {es:List (List D)} {dp:Bool} {u v:Int} [te:TI X.P e] (ho:o.op=.slice T x low high none) (hd:o.dst=some t) (hT:QaZ X T=some e) (hK:K (σ.put t (.sub p i j))) (hx:σ.ev x=.row p:=by exact rfl) (hp:Qam σ.ob p=some (.row e es dp):=by exact rfl) (hn:es.length=n:=by first|exact List.length_map _|exact QaE _|exact Qad _|exact (rfl:_=1)|exact (rfl:_=0)|exact (rfl:_=2)|exact (rfl:_=3)|assumption|exact List.length_set.trans (List.length_map _)|exact (List.length_set.trans List.length_set).trans (List.length_map _)|rfl) (hlo:σ.low low=some u:=by exact rfl) (hi:u=(i:Int):=by first|with_reducible rfl|exact nlit _|exact (Int.toNat_of_nonneg (by omega)).symm|rfl) (hhi:σ.high n high=some v:=by exact rfl) (hj:v=(j:Int):=by first|with_reducible rfl|exact nlit _|exact (Int.toNat_of_nonneg (by omega)).symm|rfl) (hb:i≤j∧j≤n:=by omega) (ht:Nat.blt t σ.nt=true:=by exact rfl):QOk X o σ K:=Qqd ho hd hT hx hp hn hlo hi hhi hj hb ht hK
end
section
variable {X:Cx} {σ:AS} {o:Oper} {K:AS→Prop} {t:Nat}
theorem zk31 {x:Operand} {T e:TypeId} {p i j:Nat} (hK:K (σ.put t (.d (.n .i64 ((j - i:Nat):Int))))) (ho:o.op=.call { callee:=.builtin .len,args:=#[x],argTypes:=#[T] }:=by exact rfl) (hd:o.dst=some t:=by exact rfl) (hT:QaZ X T=some e:=by exact rfl) (hx:σ.ev x=.sub p i j:=by exact rfl) (ht:Nat.blt t σ.nt=true:=by exact rfl):QOk X o σ K:=QrP ho hd hT hx ht hK
end
section
variable {X:Cx} {σ:AS} {o:Oper} {K:AS→Prop} {t:Nat}
theorem zk32 {T e:TypeId} {x y:Operand} {p i j k:Nat} {es:List (List D)} {dp:Bool} {q:Int} [te:TI X.P e] (ho:o.op=.indexAddr T x y) (hd:o.dst=some t) (hT:QaZ X T=some e) (hK:K (σ.put t (.pr p (i+k) 0))) (hx:σ.ev x=.sub p i j:=by exact rfl) (hp:Qam σ.ob p=some (.row e es dp):=by exact rfl) (hy:σ.ev y=.d (.n .i64 q):=by exact rfl) (hq:q=(k:Int):=by first|with_reducible rfl|exact nlit _|exact (Int.toNat_of_nonneg (by omega)).symm|rfl) (hlt:k<j - i:=by omega) (hz:Nat.beq te.size 0=false:=by exact rfl) (ht:Nat.blt t σ.nt=true:=by exact rfl):QOk X o σ K:=Qq4 ho hd hT hx hp hy hq hlt hz ht hK
end
section
variable {X:Cx} {σ:AS} {o:Oper} {K:AS→Prop} {t:Nat}
theorem zk33 {T e:TypeId} {x:Operand} {v:AV} {p i off:Nat} {es:List (List D)} {dp:Bool} {el:List D} [ti:TI X.P T] (ho:o.op=.load T x) (hK:K (σ.put t v)) (hd:o.dst=some t:=by exact rfl) (hx:σ.ev x=.pr p i off:=by exact rfl) (hp:Qam σ.ob p=some (.row e es dp):=by exact rfl) (hel:es[i]?=some el:=by first|exact QeK (by omega)|rfl) (hv:((el.drop off).map AV.d)[0]?=some v:=by exact rfl) (ha:Qbp ti.desc=false:=by exact rfl) (ht:Nat.blt t σ.nt=true:=by exact rfl) (hfl:(bif dp then el.all D.flat else true)=true:=by exact rfl):QOk X o σ K:=Qp1 ho hd hx hp hel hv ha ht hfl hK
end
section
variable {X:Cx} {σ:AS} {o:Oper} {K:AS→Prop} {t:Nat}
theorem zk34 {T e:TypeId} {x:Operand} {xs:List AV} {p i off:Nat} {es:List (List D)} {dp:Bool} {el:List D} [ti:TI X.P T] (ho:o.op=.load T x) (hK:K (σ.put t (.agg xs))) (hd:o.dst=some t:=by exact rfl) (hx:σ.ev x=.pr p i off:=by exact rfl) (hp:Qam σ.ob p=some (.row e es dp):=by exact rfl) (hel:es[i]?=some el:=by first|exact QeK (by omega)|rfl) (hv:((el.drop off).map AV.d).take ti.size=xs:=by exact rfl) (hl:Nat.beq xs.length ti.size=true:=by exact rfl) (ha:Qbp ti.desc=true:=by exact rfl) (ht:Nat.blt t σ.nt=true:=by exact rfl) (hfl:(bif dp then el.all D.flat else true)=true:=by exact rfl):QOk X o σ K:=QrL ho hd hx hp hel hv hl ha ht hfl hK
end
section
variable {X:Cx} {σ:AS} {o:Oper} {K:AS→Prop} {t:Nat}
end
section
variable {X:Cx} {σ:AS} {o:Oper} {K:AS→Prop} {t:Nat}
theorem zk36 {s x:Operand} {T e:TypeId} {p:Nat} {es es2:List (List D)} {dp:Bool} {n1 n2:Nat} [te:TI X.P e] (ho:o.op=.call { callee:=.builtin .append,args:=#[s,x],argTypes:=#[T,T] }) (hd:o.dst=some t) (hT:QaZ X T=some e) (hK:K ⟨σ.nt,(t,.row p)::cutS (notN p) σ.sl,(p,.row e (es++es2) dp)::QkK (notN p) p σ.ob⟩) (hs:σ.ev s=.row p:=by exact rfl) (hp:Qam σ.ob p=some (.row e es dp):=by exact rfl) (hx:σ.els (σ.ev x)=some es2:=by exact rfl) (hk:ElemOk te:=by exact ⟨rfl,rfl,rfl⟩) (hn1:es.length=n1:=by first|exact List.length_map _|exact QaE _|exact Qad _|exact (rfl:_=1)|exact (rfl:_=0)|exact (rfl:_=2)|exact (rfl:_=3)|assumption|exact List.length_set.trans (List.length_map _)|exact (List.length_set.trans List.length_set).trans (List.length_map _)|rfl) (hn2:es2.length=n2:=by first|exact List.length_map _|exact QaE _|exact Qad _|exact (rfl:_=1)|exact (rfl:_=0)|exact (rfl:_=2)|exact (rfl:_=3)|assumption|exact List.length_set.trans (List.length_map _)|exact (List.length_set.trans List.length_set).trans (List.length_map _)|rfl) (hz:lenE es2 te.size:=by first|exact Qga rfl|exact QfW (fun _=>rfl)) (hfl:Qcn es2=true:=by first|rfl|exact QaG (fun _=>rfl)) (hb:n1+n2≤1099511627776:=by omega) (hlo:X.fre p=true:=by exact rfl) (ht:Nat.blt t σ.nt=true:=by exact rfl):OpOk X o σ K:=Qq9 ho hd hT hs hp hx hk hn1 hn2 hz hfl hb hlo ht hK
end
section
variable {X:Cx} {σ:AS} {o:Oper} {K:AS→Prop} {t:Nat}
theorem zk37 {s x:Operand} {T e:TypeId} {es2:List (List D)} {n2:Nat} [te:TI X.P e] (ho:o.op=.call { callee:=.builtin .append,args:=#[s,x],argTypes:=#[T,T] }) (hd:o.dst=some t) (hT:QaZ X T=some e) (hK:K ⟨σ.nt,(t,.row t)::σ.sl,(t,.row e es2 true)::QbA t σ.ob⟩) (hs:σ.ev s=.nil:=by exact rfl) (hx:σ.els (σ.ev x)=some es2:=by exact rfl) (hk:ElemOk te:=by exact ⟨rfl,rfl,rfl⟩) (hn2:es2.length=n2:=by first|exact List.length_map _|exact QaE _|exact Qad _|exact (rfl:_=1)|exact (rfl:_=0)|exact (rfl:_=2)|exact (rfl:_=3)|assumption|exact List.length_set.trans (List.length_map _)|exact (List.length_set.trans List.length_set).trans (List.length_map _)|rfl) (hz:lenE es2 te.size:=by first|exact Qga rfl|exact QfW (fun _=>rfl)) (hfl:Qcn es2=true:=by first|rfl|exact QaG (fun _=>rfl)) (hb:n2≤1099511627776:=by omega) (hf:QbG X.fre t σ.ob=true:=by exact rfl) (ht:Nat.blt t σ.nt=true:=by exact rfl):OpOk X o σ K:=Qrc ho hd hT hs hx hk hn2 hz hfl hb hf ht hK
end
section
variable {X:Cx} {σ:AS} {o:Oper} {K:AS→Prop} {t:Nat}
theorem zk38 {s x:Operand} {T e:TypeId} {p:Nat} {es es2:List (List D)} {dp:Bool} {n1 n2:Nat} [te:TI X.P e] (ho:o.op=.call { callee:=.builtin .append,args:=#[s,x],argTypes:=#[T,T] }) (hd:o.dst=some t) (hT:QaZ X T=some e) (hK:K ⟨σ.nt,(t,.row p)::cutS (notN p) σ.sl,(p,.row e (es++es2) false)::QkK (notN p) p σ.ob⟩) (hs:σ.ev s=.row p:=by exact rfl) (hp:Qam σ.ob p=some (.row e es dp):=by exact rfl) (hx:σ.els (σ.ev x)=some es2:=by exact rfl) (hk:ElemOk te:=by exact ⟨rfl,rfl,rfl⟩) (hn1:es.length=n1:=by first|exact List.length_map _|exact QaE _|exact Qad _|exact (rfl:_=1)|exact (rfl:_=0)|exact (rfl:_=2)|exact (rfl:_=3)|assumption|exact List.length_set.trans (List.length_map _)|exact (List.length_set.trans List.length_set).trans (List.length_map _)|rfl) (hn2:es2.length=n2:=by first|exact List.length_map _|exact QaE _|exact Qad _|exact (rfl:_=1)|exact (rfl:_=0)|exact (rfl:_=2)|exact (rfl:_=3)|assumption|exact List.length_set.trans (List.length_map _)|exact (List.length_set.trans List.length_set).trans (List.length_map _)|rfl) (hz:lenE es2 te.size:=by first|exact Qga rfl|exact QfW (fun _=>rfl)) (hb:n1+n2≤1099511627776:=by omega) (hlo:X.fre p=true:=by exact rfl) (ht:Nat.blt t σ.nt=true:=by exact rfl) (hI:σ.okI (σ.ev x)=true:=by exact rfl):OpOk X o σ K:=Qpa ho hd hT hs hp hx hk hn1 hn2 hz hb hlo ht hI hK
end
section
variable {X:Cx} {σ:AS} {o:Oper} {K:AS→Prop} {t:Nat}
theorem zk39 {s x:Operand} {T e:TypeId} {es2:List (List D)} {n2:Nat} [te:TI X.P e] (ho:o.op=.call { callee:=.builtin .append,args:=#[s,x],argTypes:=#[T,T] }) (hd:o.dst=some t) (hT:QaZ X T=some e) (hK:K ⟨σ.nt,(t,.row t)::σ.sl,(t,.row e es2 false)::QbA t σ.ob⟩) (hs:σ.ev s=.nil:=by exact rfl) (hx:σ.els (σ.ev x)=some es2:=by exact rfl) (hk:ElemOk te:=by exact ⟨rfl,rfl,rfl⟩) (hn2:es2.length=n2:=by first|exact List.length_map _|exact QaE _|exact Qad _|exact (rfl:_=1)|exact (rfl:_=0)|exact (rfl:_=2)|exact (rfl:_=3)|assumption|exact List.length_set.trans (List.length_map _)|exact (List.length_set.trans List.length_set).trans (List.length_map _)|rfl) (hz:lenE es2 te.size:=by first|exact Qga rfl|exact QfW (fun _=>rfl)) (hb:n2≤1099511627776:=by omega) (hf:QbG X.fre t σ.ob=true:=by exact rfl) (ht:Nat.blt t σ.nt=true:=by exact rfl) (hI:σ.okI (σ.ev x)=true:=by exact rfl):OpOk X o σ K:=QoS ho hd hT hs hx hk hn2 hz hb hf ht hI hK
end
section
variable {X:Cx} {σ:AS} {o:Oper} {K:AS→Prop} {t:Nat}
theorem zk40 {T e:TypeId} {len:Nat} {parts:Array (Nat×Operand)} {cs:List AV} {ds:List D} {es:List (List D)} [te:TI X.P e] (ho:o.op=.buildSlice T len parts) (hd:o.dst=some t) (hT:QaZ X T=some e) (hK:K ⟨σ.nt,(t,.row t)::σ.sl,(t,.row e es true)::QbA t σ.ob⟩) (hk:ElemOk te:=by exact ⟨rfl,rfl,rfl⟩) (hz1:te.zero.cells.toList.all Value.oneCell'=true:=by exact rfl) (hcs:QjU te.size (Qhg te.zero len) (σ.evParts parts.toList)=some cs:=by exact rfl) (hds:QbX cs=some ds:=by exact rfl) (hl:Nat.beq ds.length (len * te.size)=true:=by exact rfl) (hfl:ds.all D.flat1=true:=by exact rfl) (hsm:Nat.ble (len * te.size) 16777216=true:=by exact rfl) (hes:Qgq (chunk te.size len ds) some=some es:=by exact rfl) (hf:QbG X.fre t σ.ob=true:=by exact rfl) (ht:Nat.blt t σ.nt=true:=by exact rfl):OpOk X o σ K:=Qxd ho hd hT hk hz1 hcs hds hl hfl hsm hes hf ht hK
end
section
variable {X:Cx} {σ:AS} {o:Oper} {K:AS→Prop} {t:Nat}
theorem zk41 {T e:TypeId} {x:Operand} {p i j:Nat} {es:List (List D)} {dp:Bool} {zd:List D} [te:TI X.P e] (ho:o.op=.call { callee:=.builtin .clear,args:=#[x],argTypes:=#[T] }) (hd:o.dst=none) (hT:QaZ X T=some e) (hK:K ⟨σ.nt,σ.sl,(p,.row e (es.take i++(List.replicate (j - i) zd++es.drop j)) dp)::QbA p σ.ob⟩) (hx:σ.ev x=.sub p i j:=by exact rfl) (hp:Qam σ.ob p=some (.row e es dp):=by exact rfl) (hk:ElemOk te:=by exact ⟨rfl,rfl,rfl⟩) (hz1:te.zero.cells.toList.all Value.oneCell'=true:=by exact rfl) (hzd:(QbX (Qde te.zero)).bind (fun l=>Qd2 l some)=some zd:=by exact rfl) (hfz:zd.all D.flat1=true:=by exact rfl) (hlz:Nat.beq zd.length te.size=true:=by exact rfl) (hfl:Qcn es=true:=by first|rfl|exact QaG (fun _=>rfl)) (hij:i<j:=by omega):OpOk X o σ K:=Qi8 ho hd hT hx hp hk hz1 hzd hfz hlz hfl hij hK
end
section
variable {X:Cx} {σ:AS} {o:Oper} {K:AS→Prop} {t:Nat}
theorem zk42 {T e:TypeId} {len:Nat} {parts:Array (Nat×Operand)} {cs:List AV} {ds:List D} {es:List (List D)} [te:TI X.P e] (ho:o.op=.buildSlice T len parts) (hd:o.dst=some t) (hT:QaZ X T=some e) (hK:K ⟨σ.nt,(t,.row t)::σ.sl,(t,.row e es false)::QbA t σ.ob⟩) (hk:ElemOk te:=by exact ⟨rfl,rfl,rfl⟩) (hz1:te.zero.cells.toList.all Value.oneCell'=true:=by exact rfl) (hcs:QjU te.size (Qhg te.zero len) (σ.evParts parts.toList)=some cs:=by exact rfl) (hds:QbX cs=some ds:=by exact rfl) (hl:Nat.beq ds.length (len * te.size)=true:=by exact rfl) (hsm:Nat.ble (len * te.size) 16777216=true:=by exact rfl) (hes:Qgq (chunk te.size len ds) some=some es:=by exact rfl) (hf:QbG X.fre t σ.ob=true:=by exact rfl) (ht:Nat.blt t σ.nt=true:=by exact rfl):OpOk X o σ K:=QvT ho hd hT hk hz1 hcs hds hl hsm hes hf ht hK
end
section
variable {X:Cx} {σ:AS} {o:Oper} {K:AS→Prop} {t:Nat}
theorem zk43 {T e:TypeId} {x y:Operand} {p q:Int} {n:Nat} {zd:List D} [te:TI X.P e] (ho:o.op=.makeSlice T x y) (hd:o.dst=some t) (hT:QaZ X T=some e) (hK:K ⟨σ.nt,(t,.row t)::σ.sl,(t,.row e (List.replicate n zd) true)::QbA t σ.ob⟩) (hx:σ.ev x=.d (.n .i64 p):=by exact rfl) (hp:p=(n:Int):=by first|with_reducible rfl|exact nlit _|exact (Int.toNat_of_nonneg (by omega)).symm|rfl) (hy:σ.ev y=.d (.n .i64 q):=by exact rfl) (hq:q=(n:Int):=by first|with_reducible rfl|exact nlit _|exact (Int.toNat_of_nonneg (by omega)).symm|rfl) (hb:n≤1099511627776:=by omega) (hk:ElemOk te:=by exact ⟨rfl,rfl,rfl⟩) (hzd:(QbX (Qde te.zero)).bind (fun l=>Qd2 l some)=some zd:=by exact rfl) (hfl:zd.all D.flat1=true:=by exact rfl) (hlz:Nat.beq zd.length te.size=true:=by exact rfl) (hf:QbG X.fre t σ.ob=true:=by exact rfl) (ht:Nat.blt t σ.nt=true:=by exact rfl):OpOk X o σ K:=QvB ho hd hT hx hp hy hq hb hk hzd hfl hlz hf ht hK
end
section
variable {X:Cx} {σ:AS} {o:Oper} {K:AS→Prop} {Q:Exit→AS→Prop} {t:Nat}
end
section
variable {X:Cx} {σ:AS} {o:Oper} {K:AS→Prop} {t:Nat}
theorem zk45 {T e:TypeId} {x y:Operand} {p i off n:Nat} {es:List (List D)} {dp:Bool} {el ds:List D} {xs:List AV} [ti:TI X.P T] (ho:o.op=.store T x y) (hK:K ⟨σ.nt,σ.sl,(p,.row e (es.set i (splice el off ds)) dp)::QbA p σ.ob⟩) (hd:o.dst=none:=by exact rfl) (hx:σ.ev x=.pr p i off:=by exact rfl) (hp:Qam σ.ob p=some (.row e es dp):=by exact rfl) (hy:(σ.ev y).cellsV=some xs:=by exact rfl) (hds:QbX xs=some ds:=by exact rfl) (hn:es.length=n:=by first|exact List.length_map _|exact QaE _|exact Qad _|exact (rfl:_=1)|exact (rfl:_=0)|exact (rfl:_=2)|exact (rfl:_=3)|assumption|exact List.length_set.trans (List.length_map _)|exact (List.length_set.trans List.length_set).trans (List.length_map _)|rfl) (hlt:i<n:=by omega) (hel:es[i]?=some el:=by first|exact QeK (by omega)|rfl) (hfe:el.all D.flat1=true:=by exact rfl) (hfd:ds.all D.flat1=true:=by exact rfl) (hl:Nat.beq ds.length ti.size=true:=by exact rfl) (hfit:Nat.ble (off+ti.size) el.length=true:=by exact rfl):OpOk X o σ K:=QrH ho hd hx hp hy hds hn hlt hel hfe hfd hl hfit hK
end
section
variable {X:Cx} {σ:AS} {o:Oper} {K:AS→Prop} {t:Nat}
theorem zk46 {T e:TypeId} {x y:Operand} {p i off n:Nat} {es:List (List D)} {dp:Bool} {el ds:List D} {xs:List AV} [ti:TI X.P T] (ho:o.op=.store T x y) (hK:K ⟨σ.nt,σ.sl,(p,.row e (es.set i (splice el off ds)) false)::QbA p σ.ob⟩) (hd:o.dst=none:=by exact rfl) (hx:σ.ev x=.pr p i off:=by exact rfl) (hp:Qam σ.ob p=some (.row e es dp):=by exact rfl) (hy:(σ.ev y).cellsV=some xs:=by exact rfl) (hds:QbX xs=some ds:=by exact rfl) (hn:es.length=n:=by first|exact List.length_map _|exact QaE _|exact Qad _|exact (rfl:_=1)|exact (rfl:_=0)|exact (rfl:_=2)|exact (rfl:_=3)|assumption|exact List.length_set.trans (List.length_map _)|exact (List.length_set.trans List.length_set).trans (List.length_map _)|rfl) (hlt:i<n:=by omega) (hel:es[i]?=some el:=by first|exact QeK (by omega)|rfl) (hl:Nat.beq ds.length ti.size=true:=by exact rfl) (hfit:Nat.ble (off+ti.size) el.length=true:=by exact rfl):OpOk X o σ K:=QpI ho hd hx hp hy hds hn hlt hel hl hfit hK
end
section
variable {X:Cx} {σ:AS} {o:Oper} {K:AS→Prop} {Q:Exit→AS→Prop} {t:Nat}
end
section
variable {X:Cx} {σ:AS} {o:Oper} {K:AS→Prop} {t:Nat} {p q:Int} {xt yt:TypeId} {x y:Operand}
end
section
variable {X:Cx} {σ:AS} {o:Oper} {K:AS→Prop} {t:Nat} {p q:Int} {xt yt:TypeId} {x y:Operand}
end
section
variable {X:Cx} {σ:AS} {o:Oper} {K:AS→Prop} {t:Nat} {p q:Int} {xt yt:TypeId} {x y:Operand}
end
section
variable {X:Cx} {σ:AS} {o:Oper} {K:AS→Prop} {t:Nat} {p q:Int} {xt yt:TypeId} {x y:Operand}
end
section
variable {X:Cx} {σ:AS} {o:Oper} {K:AS→Prop} {t:Nat} {p q:Int} {xt yt:TypeId} {x y:Operand}
end
section
variable {X:Cx} {σ:AS} {o:Oper} {K:AS→Prop} {t:Nat}
theorem kc {f:FuncId} {as:Array Operand} {ats:Array TypeId} {xs rs:List AV} {rob:List (Nat×AO)} (hc:ACalls X.P f xs rs rob) (ho:o.op=.call { callee:=.value (.func f),args:=as,argTypes:=ats }) (hx:σ.snaps as.toList=some xs) (hK:K ⟨σ.nt,(t,(one rs).shift t)::σ.sl,QcG t rob++σ.ob⟩) (hd:o.dst=some t:=by exact rfl) (hf:Qg7 X.fre t σ.ob rob=true:=by exact rfl) (ht:Nat.blt t σ.nt=true:=by exact rfl):OpOk X o σ K:=Qp3 hc ho hd hx hf ht hK
end
section
variable {X:Cx} {σ:AS} {o:Oper} {K:AS→Prop} {t:Nat}
theorem kq {f:FuncId} {as:Array Operand} {ats:Array TypeId} {xs rs:List AV} (hc:ACalls X.P f xs rs []) (ho:o.op=.call { callee:=.value (.func f),args:=as,argTypes:=ats }) (hx:σ.snaps as.toList=some xs) (hK:K (σ.put t (one rs))) (hd:o.dst=some t:=by exact rfl) (hr:(one rs).rigid=true:=by exact rfl) (ht:Nat.blt t σ.nt=true:=by exact rfl):QOk X o σ K:=QuE hc ho hd hx hr ht hK
end
section
variable {X:Cx} {σ:AS} {o:Oper} {K:AS→Prop} {t:Nat}
theorem kv {f:FuncId} {x:Operand} {cs ys:List AV} {as:Array Operand} {ats:Array TypeId} {xs zs rs:List AV} {rob:List (Nat×AO)} (hc:ACalls X.P f zs rs rob) (ho:o.op=.call { callee:=.value x,args:=as,argTypes:=ats }) (hv:σ.ev x=.clo f cs) (hy:QjE σ.ob cs=some ys) (hx:σ.snaps as.toList=some xs) (hz:xs++ys=zs) (hK:K ⟨σ.nt,(t,(one rs).shift t)::σ.sl,QcG t rob++σ.ob⟩) (hd:o.dst=some t:=by exact rfl) (hf:Qg7 X.fre t σ.ob rob=true:=by exact rfl) (ht:Nat.blt t σ.nt=true:=by exact rfl):OpOk X o σ K:=Qty hc ho hd hv hy hx hz hf ht hK
end
section
variable {X:Cx} {σ:AS} {o:Oper} {K:AS→Prop} {t:Nat}
theorem km {ι:Type} {f:FuncId} {as:Array Operand} {ats:Array TypeId} {xs:List AV} {obs:List (Nat×AO)} {ok:ι→Prop} {rs:ι→List AV} {obs' rob:ι→List (Nat×AO)} (ρ:List Nat) (hc:MCalls X.P f xs obs ok rs obs' rob) (ho:o.op=.call { callee:=.value (.func f),args:=as,argTypes:=ats }) (hx:σ.handA ρ as.toList=some xs) (hK:∀i,ok i→K ⟨σ.nt,(t,(one (rs i)).mapN (Qbf t ρ))::σ.sl,QcG t (rob i)++(QhZ ρ (obs' i)++QkW ρ σ.ob)⟩) (hd:o.dst=some t:=by exact rfl) (hob:σ.handed 1000000 ρ=some obs:=by exact rfl) (hn:Qci ρ=true:=by exact rfl) (hf:∀i,ok i→(Qf5 X.fre t σ.ob (rob i)&&(rob i).all fun y=>fre0 y.1)=true:=by exact fun _ _=>rfl) (ht:Nat.blt t σ.nt=true:=by exact rfl):OpOk X o σ K:=QoG ρ hc ho hd hx hob hn hf ht hK
end
section
variable {X:Cx} {σ:AS} {o:Oper} {K:AS→Prop} {t:Nat}
theorem kw {ι:Type} {f:FuncId} {x:Operand} {cs ys:List AV} {as:Array Operand} {ats:Array TypeId} {xs zs:List AV} {obs:List (Nat×AO)} {ok:ι→Prop} {rs:ι→List AV} {obs' rob:ι→List (Nat×AO)} (ρ:List Nat) (hc:MCalls X.P f zs obs ok rs obs' rob) (ho:o.op=.call { callee:=.value x,args:=as,argTypes:=ats }) (hv:σ.ev x=.clo f cs) (hy:QhR ρ cs=some ys) (hx:σ.handA ρ as.toList=some xs) (hz:xs++ys=zs) (hK:∀i,ok i→K ⟨σ.nt,(t,(one (rs i)).mapN (Qbf t ρ))::σ.sl,QcG t (rob i)++(QhZ ρ (obs' i)++QkW ρ σ.ob)⟩) (hd:o.dst=some t:=by exact rfl) (hob:σ.handed 1000000 ρ=some obs:=by exact rfl) (hn:Qci ρ=true:=by exact rfl) (hf:∀i,ok i→(Qf5 X.fre t σ.ob (rob i)&&(rob i).all fun y=>fre0 y.1)=true:=by exact fun _ _=>rfl) (ht:Nat.blt t σ.nt=true:=by exact rfl):OpOk X o σ K:=QrQ ρ hc ho hd hv hy hx hz hob hn hf ht hK
end
section
variable {X:Cx} {σ:AS} {o:Oper} {K:AS→Prop} {t:Nat}
theorem kn {ι:Type} {f:FuncId} {as:Array Operand} {ats:Array TypeId} {xs:List AV} {obs:List (Nat×AO)} {ok:ι→Prop} {rs:ι→List AV} {fin:ι→List (Nat×AO)} (ρ:List Nat) (hc:NCalls X.P f xs obs ok rs fin) (ho:o.op=.call { callee:=.value (.func f),args:=as,argTypes:=ats }) (hx:σ.handNA ρ as.toList=some xs) (hK:∀i,ok i→K ⟨σ.nt,(t,(one (rs i)).mapN (Qbf t ρ))::cutS (Qfz ρ (fin i)) σ.sl,finO t ρ (fin i)++QbL (inN ρ) (Qfz ρ (fin i)) σ.ob⟩) (hd:o.dst=some t:=by exact rfl) (hob:σ.handedN ρ 0 ρ=some obs:=by exact rfl) (hn:Qci ρ=true:=by exact rfl) (hno:Qdb obs=true:=by exact rfl) (hf:∀i,ok i→QoX X.fre t ρ σ.ob (fin i)=true:=by exact fun _ _=>rfl) (ht:Nat.blt t σ.nt=true:=by exact rfl):OpOk X o σ K:=Qof ρ hc ho hd hx hob hn hno hf ht hK
end
theorem zqo0 {X:Cx} {σ:AS} {o:Oper} {K:AS→Prop} {R:Prop} (k:R) (_h0:Nat.beq (opx o.op) 0=true:=by exact rfl) (h:R→QOk X o σ K:=by intro r;first|exact zk0 r|exact zk1 r|exact zk3 r|exact zk4 r|exact zk5 r|exact zk6 r|exact zk19 r|exact zk28 QtX (by kernel_rfl) r|exact zk29 QtX (by kernel_rfl) r):QOk X o σ K:=h k
theorem zqo1 {X:Cx} {σ:AS} {o:Oper} {K:AS→Prop} {R:Prop} (k:R) (_h0:Nat.beq (opx o.op) 8=true:=by exact rfl) (h:R→QOk X o σ K:=by intro r;first|exact zk12 (fun _=>r)|exact zk31 r):QOk X o σ K:=h k
theorem zqo2 {X:Cx} {σ:AS} {o:Oper} {K:AS→Prop} {R:Prop} (k:R) (_h0:Nat.beq (opx o.op) 3=true:=by exact rfl) (h:R→QOk X o σ K:=by intro r;first|exact zk13 rfl rfl rfl r|exact zk14 r|exact zk32 rfl rfl rfl r):QOk X o σ K:=h k
theorem zqo3 {X:Cx} {σ:AS} {o:Oper} {K:AS→Prop} {R:Prop} (k:R) (_h0:Nat.beq (opx o.op) 5=true:=by exact rfl) (h:R→QOk X o σ K:=by intro r;first|exact zk16 rfl rfl rfl r|exact zk30 rfl rfl rfl r):QOk X o σ K:=h k
theorem zqo4 {X:Cx} {σ:AS} {o:Oper} {K:AS→Prop} {R:Prop} (k:R) (_h0:Nat.beq (opx o.op) 1=true:=by exact rfl) (h:R→QOk X o σ K:=by intro r;first|exact zk17 r|exact zk20 r):QOk X o σ K:=h k
theorem zqo6 {X:Cx} {σ:AS} {o:Oper} {K:AS→Prop} {R:Prop} (k:R) (_h0:Nat.beq (opx o.op) 6=true:=by exact rfl) (h:R→QOk X o σ K:=by intro r;first|exact zk23 rfl r):QOk X o σ K:=h k
theorem zqo8 {X:Cx} {σ:AS} {o:Oper} {K:AS→Prop} {R:Prop} (k:R) (_h0:Nat.beq (opx o.op) 8=true:=by exact rfl) (h:R→QOk X o σ K:=by intro r;first|exact zk26 r):QOk X o σ K:=h k
theorem zqo10 {X:Cx} {σ:AS} {o:Oper} {K:AS→Prop} {R:Prop} (k:R) (_h0:Nat.beq (opx o.op) 4=true:=by exact rfl) (h:R→QOk X o σ K:=by intro r;first|exact zk33 rfl r|exact zk34 rfl r):QOk X o σ K:=h k
theorem zqo {X:Cx} {σ:AS} {o:Oper} {K:AS→Prop} {R:Prop} (k:R) (h:R→QOk X o σ K:=by intro r;first|exact zqo0 r|exact zqo1 r|exact zqo2 r|exact zqo3 r|exact zqo4 r|exact zqo6 r|exact zqo8 r|exact zqo10 r):QOk X o σ K:=h k
theorem zqn0 {X:Cx} {σ:AS} {o:Oper} {K:AS→Prop} {R:Prop} (k:R) (_h0:Nat.beq (opx o.op) 0=true:=by exact rfl) (h:R→QOk X o σ K:=by intro r;first|exact zk3 r|exact zk4 r|exact zk5 r|exact zk6 r|exact zk19 r|exact zk28 QtX (by kernel_rfl) r|exact zk29 QtX (by kernel_rfl) r):QOk X o σ K:=h k
theorem zqn2 {X:Cx} {σ:AS} {o:Oper} {K:AS→Prop} {R:Prop} (k:R) (_h0:Nat.beq (opx o.op) 3=true:=by exact rfl) (h:R→QOk X o σ K:=by intro r;first|exact zk13 rfl rfl rfl r|exact zk14 r|exact zk32 rfl rfl rfl r):QOk X o σ K:=h k
theorem zqn6 {X:Cx} {σ:AS} {o:Oper} {K:AS→Prop} {R:Prop} (k:R) (_h0:Nat.beq (opx o.op) 6=true:=by exact rfl) (h:R→QOk X o σ K:=by intro r;first|exact zk23 rfl r):QOk X o σ K:=h k
theorem zqn10 {X:Cx} {σ:AS} {o:Oper} {K:AS→Prop} {R:Prop} (k:R) (_h0:Nat.beq (opx o.op) 4=true:=by exact rfl) (h:R→QOk X o σ K:=by intro r;first|exact zk33 rfl r|exact zk34 rfl r):QOk X o σ K:=h k
theorem zqn {X:Cx} {σ:AS} {o:Oper} {K:AS→Prop} {R:Prop} (k:R) (h:R→QOk X o σ K:=by intro r;first|exact zqn0 r|exact zqn2 r|exact zqn6 r|exact zqn10 r):QOk X o σ K:=h k
theorem zom0 {X:Cx} {σ:AS} {o:Oper} {K:AS→Prop} {R:Prop} (k:R) (_h0:Nat.beq (opx o.op) 8=true:=by exact rfl) (h:R→OpOk X o σ K:=by intro r;first|exact zk36 rfl rfl rfl r|exact zk37 rfl rfl rfl r|exact zk38 rfl rfl rfl r|exact zk39 rfl rfl rfl r):OpOk X o σ K:=h k
theorem zom1 {X:Cx} {σ:AS} {o:Oper} {K:AS→Prop} {R:Prop} (k:R) (_h0:Nat.beq (opx o.op) 9=true:=by exact rfl) (h:R→OpOk X o σ K:=by intro r;first|exact zk40 rfl rfl rfl r|exact zk42 rfl rfl rfl r):OpOk X o σ K:=h k
theorem zom2 {X:Cx} {σ:AS} {o:Oper} {K:AS→Prop} {R:Prop} (k:R) (_h0:Nat.beq (opx o.op) 8=true:=by exact rfl) (h:R→OpOk X o σ K:=by intro r;first|exact zk41 rfl rfl rfl r):OpOk X o σ K:=h k
theorem zom3 {X:Cx} {σ:AS} {o:Oper} {K:AS→Prop} {R:Prop} (k:R) (_h0:Nat.beq (opx o.op) 10=true:=by exact rfl) (h:R→OpOk X o σ K:=by intro r;first|exact zk43 rfl rfl rfl r):OpOk X o σ K:=h k
theorem zom5 {X:Cx} {σ:AS} {o:Oper} {K:AS→Prop} {R:Prop} (k:R) (_h0:Nat.beq (opx o.op) 11=true:=by exact rfl) (h:R→OpOk X o σ K:=by intro r;first|exact zk45 rfl r|exact zk46 rfl r):OpOk X o σ K:=h k
theorem zom {X:Cx} {σ:AS} {o:Oper} {K:AS→Prop} {R:Prop} (k:R) (h:R→OpOk X o σ K:=by intro r;first|exact zom0 r|exact zom1 r|exact zom2 r|exact zom3 r|exact zom5 r):OpOk X o σ K:=h k
theorem zopq {X:Cx} {σ:AS} {o:Oper} {K:AS→Prop} {R:Prop} (k:R) (_h0:isQ o.op=true:=by exact rfl) (h:R→QOk X o σ K:=by intro r;exact zqo r):OpOk X o σ K:=(h k).ok
theorem zop {G R:Prop} (k:R) (h:R→G:=by intro r;first|exact zom r|exact zopq r|exact zqo r):G:=h k
theorem zonq {X:Cx} {σ:AS} {o:Oper} {K:AS→Prop} {R:Prop} (k:R) (_h0:isQ o.op=true:=by exact rfl) (h:R→QOk X o σ K:=by intro r;exact zqn r):OpOk X o σ K:=(h k).ok
theorem zon {G R:Prop} (k:R) (h:R→G:=by intro r;first|exact zom r|exact zonq r|exact zqn r):G:=h k
end Go.Proofs.YtelbahebpmkfjaaGreat
namespace Go.Proofs.YtelbahebpmkfjaaGreat
open Go Go.RowKit
theorem zln {X:Cx} {σ:AS} {o:Oper} {K:AS→Prop} {p R:Prop} (k:p→R) (h:(p→R)→OpOk X o σ K:=by intro r;exact zgq (zk12 r)):OpOk X o σ K:=h k
end Go.Proofs.YtelbahebpmkfjaaGreat
