/-
  Journals, controllers and worlds of a law: sizes, copies as data, equality.
-/
import Derived.Test.YtihgfennoalocaaGreatKB21
import Derived.Test.YtihgfennoalocaaGreatKB27
set_option maxRecDepth 100000
set_option maxHeartbeats 16000000
namespace Go.Proofs.YtihgfennoalocaaGreat
open Go Go.RowKit Tryz
section
attribute [local irreducible] AWp QJ OpOk ACalls ChA QsOk MCalls EnC PY

structure QV where
 bytes:List UInt8
 synced:Int
 count:Int
structure Ctl where
 first:Qd
 state:Qd
 jn:QV
structure Wld where
 up:Bool
 first:Qd
 ctl:Ctl
 bytes:List UInt8
 codes:List Int
@[reducible] def jnC (j:QV):List AV:=[zL (QG j.bytes),zI j.synced,zI j.count]
@[reducible] def jnA (j:QV):AV:=.agg (jnC j)
@[reducible] def ctlC (c:Ctl):List AV:=JB c.first++(JB c.state++jnC c.jn)
@[reducible] def ctlA (c:Ctl):AV:=.agg (ctlC c)
@[reducible] def wldC (w:Wld):List AV:=.d (.b w.up)::(JB w.first++(ctlC w.ctl++[zL (QG w.bytes),zL (intE w.codes)]))
@[reducible] def wldA (w:Wld):AV:=.agg (wldC w)
structure JI (n:Nat) (c:Ctl):Prop where
 first:Ql n c.first
 state:Ql n c.state
 jn:c.jn.bytes.length<=n
structure Zm (n:Nat) (w:Wld):Prop where
 first:Ql n w.first
 ctl:JI n w.ctl
 bytes:w.bytes.length<=n
 codes:w.codes.length<=n
theorem JI.mono{n m:Nat}{c:Ctl}(h:JI n c)(hm:n<=m):JI m c:=⟨h.first.mono hm,h.state.mono hm,Xao h.jn hm⟩
theorem Zm.mono{n m:Nat}{w:Wld}(h:Zm n w)(hm:n<=m):Zm m w:=⟨h.first.mono hm,h.ctl.mono hm,Xao h.bytes hm,Xao h.codes hm⟩
theorem QgM{l:List UInt8}{x:Int}(h:l.length<=9223372036854775807)(hx:0<=x/\x<=1048576):SC Tryz.prog 63 (zL (QG l)) x (l.length<=1048576):=by
 refine zMC func63 fun w0 Z O=>?_
 have hl:=Qj l
 repeat'(first|(refine zhm fun hb=>?_;try exact zab)|refine zUtp ?_|refine zg2 ?_ ?_|intro _|fail)
 ·exact zm (-1) [] (by exact⟨by omega,fun h=>by omega⟩) zae zae zae
 ·exact zm (x-l.length) [] (by exact⟨by omega,fun _=>by omega⟩) zae zae zae
theorem Qjr{j:QV}{x:Int}(h:j.bytes.length<=9223372036854775807)(hx:0<=x/\x<=1048576):SC Tryz.prog 51 (jnA j) x (j.bytes.length<=1048576):=by
 refine zMC func51 fun w0 Z O=>?_
 repeat'(first|(refine zhm fun hb=>?_;try exact zab)|refine zUto ?_|refine zg2 ?_ ?_|(refine km [] (QgM (l:=j.bytes) (x:=x) h hx) rfl rfl (fun i hi=>?_);try dsimp only at hi)|intro _|fail)
 ·exact zm (-1) [] (by exact⟨by omega,fun h=>by omega⟩) zae zae zae
 ·exact zm i [] (by exact⟨hi.1,hi.2⟩) zae zae zae
theorem Qbr{c:Ctl}{x:Int}(h:JI 9223372036854775807 c)(hx:0<=x/\x<=1048576):SC Tryz.prog 11 (ctlA c) x (JI 1048576 c):=by
 refine zMC func11 fun w0 Z O=>?_
 repeat'(first|(refine zhm fun hb=>?_;try exact zab)|refine zUto ?_|refine zg2 ?_ ?_|(refine km [] (Qap (s:=c.first) (x:=x) h.first hx) rfl rfl (fun i hi=>?_);try dsimp only at hi)|(refine km [] (Qap (s:=c.state) h.state (by omega)) rfl rfl (fun i hi=>?_);try dsimp only at hi)|(refine km [] (Qjr (j:=c.jn) h.jn (by omega)) rfl rfl (fun i hi=>?_);try dsimp only at hi)|intro _|fail)
 ·exact zm (-1) [] (by exact⟨by omega,fun h=>by omega⟩) zae zae zae
 ·exact zm (-1) [] (by exact⟨by omega,fun h=>by omega⟩) zae zae zae
 ·exact zm (-1) [] (by exact⟨by omega,fun h=>by omega⟩) zae zae zae
 ·rename_i i0 hi0 _ i1 hi1 _
  exact zm i [] (by exact⟨by omega,fun _=>⟨hi0.2 (by omega),hi1.2 (by omega),hi.2 (by omega)⟩⟩) zae zae zae
theorem QhC{w:Wld}(h:Zm 9223372036854775807 w):SC Tryz.prog 16 (wldA w) 1048576 (Zm 1048576 w):=by
 refine zMC func16 fun w0 Z O=>?_
 repeat'(first|(refine zhm fun hb=>?_;try exact zab)|refine zUto ?_|refine zg2 ?_ ?_|(refine km [] (Qap (s:=w.first) (x:=1048576) h.first (by omega)) rfl rfl (fun i hi=>?_);try dsimp only at hi)|(refine km [] (Qbr (c:=w.ctl) h.ctl (by omega)) rfl rfl (fun i hi=>?_);try dsimp only at hi)|(refine km [] (QgM (l:=w.bytes) h.bytes (by omega)) rfl rfl (fun i hi=>?_);try dsimp only at hi)|(refine km [] (Qgf (l:=w.codes) h.codes (by omega)) rfl rfl (fun i hi=>?_);try dsimp only at hi)|intro _|fail)
 ·exact zm (-1) [] (by exact⟨by omega,fun h=>by omega⟩) zae zae zae
 ·exact zm (-1) [] (by exact⟨by omega,fun h=>by omega⟩) zae zae zae
 ·exact zm (-1) [] (by exact⟨by omega,fun h=>by omega⟩) zae zae zae
 ·exact zm (-1) [] (by exact⟨by omega,fun h=>by omega⟩) zae zae zae
 ·rename_i i0 hi0 _ i1 hi1 _ i2 hi2 _
  exact zm i [] (by exact⟨by omega,fun _=>⟨hi0.2 (by omega),hi1.2 (by omega),hi2.2 (by omega),hi.2 (by omega)⟩⟩) zae zae zae
theorem Qag{l:List UInt8}(h:l.length<=1048576):DC Tryz.prog 31 [zL (QG l)] [zL (QG l)]:=by
 refine zMC func31 fun w0 Z O=>?_
 have hl:=Qj l
 repeat'(first|(refine zhm fun hb=>?_;try exact zab)|refine zUtp ?_|refine zg2 ?_ ?_|intro _|fail)
 refine Qa (fun(i:Nat)=>⟨22,[(0,zL (QG l)),(3,.row 7),(4,zI i)],[(7,.row 5 (QG (cpyL l 0 i)) true)]⟩) (fun i=>i<=l.length) (fun i=>l.length-i) 0 (by exact Xab _) ?_ ?_
 ·refine⟨rfl,?_,?_,rfl⟩
  repeat'(first|exact ze3|refine ze2 ?_ ?_|refine ze4 ?_|exact ze5|fail)
  all_goals exact zp (by first|rfl|(rw[JR];exact(List.map_replicate ..).symm)|(rw[JR];simp[QG]))
 ·intro i hi
  have hcl:(QG (cpyL l 0 i)).length=l.length:=by rw[Qj];exact Qw _ _ hi
  have hcl2:=Qw l 0 hi
  by_cases hi':i<l.length
  ·repeat'(first|(refine zhm fun hb=>?_;try exact zab)|refine zUtp ?_|refine zg2 ?_ ?_|intro _|fail)
   refine⟨i+1,by omega,by omega,?_⟩
   refine zag ?_;exact zp (Yl (f:=(fun(b:UInt8)=>([.n .u8 (b.toNat:Int)]:List D))) hi')
  ·obtain rfl:i=l.length:=by omega
   repeat'(first|(refine zhm fun hb=>?_;try exact zab)|refine zUrp ?_|refine zg2 ?_ ?_|intro _|fail)
   show AWp _ _ _ _
   refine Qs 7 rfl ?_
   refine QD ?_
   apply Qt
   refine zm () [] trivial ?_ ?_ ?_
   repeat'(first|exact ze3|refine ze2 ?_ ?_|refine ze4 ?_|exact ze5|fail)
   all_goals exact zp (by first|rfl|rw[Ym])
theorem Qjt{j:QV}(h:j.bytes.length<=1048576):DC Tryz.prog 56 [jnA j] [jnA j]:=by
 refine zMC func56 fun w0 Z O=>?_
 repeat'(first|(refine zhm fun hb=>?_;try exact zab)|refine zUro ?_|refine zg2 ?_ ?_|refine kmu (Qag (l:=j.bytes) h) ?_|intro _|fail)
 exact zDR
theorem Qa8{c:Ctl}(h:JI 1048576 c):DC Tryz.prog 13 [ctlA c] [ctlA c]:=by
 refine zMC func13 fun w0 Z O=>?_
 repeat'(first|(refine zhm fun hb=>?_;try exact zab)|refine zUro ?_|refine zg2 ?_ ?_|refine kmu (Z2 (s:=c.first) h.first) ?_|refine kmu (Z2 (s:=c.state) h.state) ?_|refine kmu (Qjt (j:=c.jn) h.jn) ?_|intro _|fail)
 exact zDR
theorem Qoa{w:Wld}(h:Zm 1048576 w):DC Tryz.prog 18 [wldA w] [wldA w]:=by
 refine zMC func18 fun w0 Z O=>?_
 repeat'(first|(refine zhm fun hb=>?_;try exact zab)|refine zUro ?_|refine zg2 ?_ ?_|refine kmu (Z2 (s:=w.first) h.first) ?_|refine kmu (Qa8 (c:=w.ctl) h.ctl) ?_|refine kmu (Qag (l:=w.bytes) h.bytes) ?_|refine kmu (Qfu (l:=w.codes) h.codes) ?_|intro _|fail)
 exact zDR
theorem Wq{l:List UInt8}(h:l.length<=1000000000) :zAc 24 [zL (QG l),zL (QG l)] [.d (.b true)] []:=by
 refine zAC func24 fun w0 Z=>?_
 have hl:=Qj l
 repeat'(first|(refine zhm fun hb=>?_;try exact zab)|refine Qe ?_|(apply zch;exact zcg)|exact zhk|refine zg3 ?_ ?_|intro _|fail)
 all_goals first|exact absurd rfl (by assumption)|skip
 refine Qa (fun(i:Nat)=>⟨26,[(0,zL (QG l)),(1,zL (QG l)),(5,zI i)],[]⟩) (fun i=>i<=l.length) (fun i=>l.length-i) 0 (by exact Xab _) ?_ ?_
 ·exact zll
 ·intro i hi
  by_cases hi':i<l.length
  ·repeat'(first|(refine zhm fun hb=>?_;try exact zab)|refine Qe ?_|(apply zch;exact zcg)|exact zhk|refine zg3 ?_ ?_|intro _|fail)
   all_goals first|exact absurd rfl (by assumption)|skip
   exact⟨i+1,by omega,by omega,zll⟩
  ·repeat'(first|(refine zhm fun hb=>?_;try exact zab)|refine Qe ?_|(apply zch;exact zcg)|exact zhk|refine zg3 ?_ ?_|intro _|fail)
   exact zrr
theorem Qis{j:QV}(h:j.bytes.length<=1000000000):zAc 62 [jnA j,jnA j] [.d (.b true)] []:=by
 refine zAC func62 fun w0 Z=>?_
 repeat'(first|(refine zhm fun hb=>?_;try exact zab)|refine zUto ?_|refine zg2 ?_ ?_|refine kc (Wq (l:=j.bytes) h) rfl rfl ?_|intro _|fail)
 all_goals first|exact absurd rfl (by assumption)|skip
 exact zrr
theorem WQ{c:Ctl}(h:JI 1000000000 c):zAc 15 [ctlA c,ctlA c] [.d (.b true)] []:=by
 refine zAC func15 fun w0 Z=>?_
 repeat'(first|(refine zhm fun hb=>?_;try exact zab)|refine zUto ?_|refine zg2 ?_ ?_|refine kc (WX (s:=c.first) h.first) rfl rfl ?_|refine kc (WX (s:=c.state) h.state) rfl rfl ?_|refine kc (Qis (j:=c.jn) h.jn) rfl rfl ?_|intro _|fail)
 all_goals first|exact absurd rfl (by assumption)|skip
 exact zrr
theorem QhA{w:Wld}(h:Zm 1000000000 w):zAc 20 [wldA w,wldA w] [.d (.b true)] []:=by
 refine zAC func20 fun w0 Z=>?_
 repeat'(first|(refine zhm fun hb=>?_;try exact zab)|refine zUto ?_|refine zg2 ?_ ?_|refine kc (WX (s:=w.first) h.first) rfl rfl ?_|refine kc (WQ (c:=w.ctl) h.ctl) rfl rfl ?_|refine kc (Wq (l:=w.bytes) h.bytes) rfl rfl ?_|refine kc (QfY (l:=w.codes) h.codes) rfl rfl ?_|intro _|fail)
 all_goals first|exact absurd rfl (by assumption)|skip
 exact zrr
end
section

theorem QaJ:∀{es:List (List D)},(∀q∈es,∃z,q=[D.n .u8 z]/\(Lit.int .u8 z).wf=true)->∃b,es=QG b
 | [],_=>⟨[],rfl⟩
 | q::es,h=>by
  obtain⟨z,rfl,hz⟩:=h q Xaa
  obtain⟨b,rfl⟩:=QaJ (es:=es) fun q hq=>h q (Xae _ hq)
  have hz':0<=z/\z<=255:=by
   simp[Lit.wf,IntKind.min,IntKind.max,IntKind.signed,IntKind.bits]at hz
   omega
  refine⟨UInt8.ofNat z.toNat::b,?_⟩
  have:=QgS hz'
  simp only[QG,Xaw,Xbb,Xbw,and_true]at this ⊢
  exact this
def jnD(j:QV):List D:=[.sl (QG j.bytes),.n .i64 j.synced,.n .i64 j.count]
def Quu(c:Ctl):List D:=QkD c.first++(QkD c.state++jnD c.jn)
def Qvi(w:Wld):List D:=.b w.up::(QkD w.first++(Quu w.ctl++[.sl (QG w.bytes),.sl (intE w.codes)]))
theorem Qq9{W:World}{ds:List D}(h:TyD ⟨Tryz.prog,W,fun _=>true,NoZ,NoB,tt⟩ 40 57 ds):∃w:Wld,ds=Qvi w/\Zm 9223372036854775807 w:=by
 obtain⟨_,_,rfl,⟨up,rfl⟩,_,_,rfl,hF,_,_,rfl,⟨_,_,rfl,hC,_,_,rfl,hS,_,_,rfl,⟨_,_,rfl,⟨e1,rfl,l1,q1⟩,_,_,rfl,⟨sy,rfl,_⟩,_,_,rfl,⟨co,rfl,_⟩,rfl⟩,rfl⟩,_,_,rfl,⟨e2,rfl,l2,q2⟩,_,_,rfl,⟨e3,rfl,l3,q3⟩,rfl⟩:=h
 obtain⟨s1,rfl,h1⟩:=Xu hF
 obtain⟨s2,rfl,h2⟩:=Xu hC
 obtain⟨s3,rfl,h3⟩:=Xu hS
 obtain⟨b1,rfl⟩:=QaJ q1
 obtain⟨b2,rfl⟩:=QaJ q2
 obtain⟨p,rfl,_⟩:=QaH (f:=fun x:Int=>([.n .i64 x]:List D)) (p:=fun _=>True) (es:=e3) fun q hq=>by
  obtain⟨z,rfl,_⟩:=q3 q hq
  exact⟨z,rfl,trivial⟩
 rw[Qj]at l1 l2
 rw[Xah]at l3
 exact⟨⟨up,s1,⟨s2,s3,⟨b1,sy,co⟩⟩,b2,p⟩,rfl,⟨h1,⟨h2,h3,l1⟩,l2,l3⟩⟩
theorem QrN{W:World}{ds:List D}(h:TyD ⟨Tryz.prog,W,fun _=>true,NoZ,NoB,tt⟩ 40 38 ds):∃c:Ctl,ds=Quu c/\JI 9223372036854775807 c:=by
 obtain⟨_,_,rfl,hC,_,_,rfl,hS,_,_,rfl,⟨_,_,rfl,⟨e1,rfl,l1,q1⟩,_,_,rfl,⟨sy,rfl,_⟩,_,_,rfl,⟨co,rfl,_⟩,rfl⟩,rfl⟩:=h
 obtain⟨s2,rfl,h2⟩:=Xu hC
 obtain⟨s3,rfl,h3⟩:=Xu hS
 obtain⟨b1,rfl⟩:=QaJ q1
 rw[Qj]at l1
 exact⟨⟨s2,s3,⟨b1,sy,co⟩⟩,rfl,⟨h2,h3,l1⟩⟩
end
end Go.Proofs.YtihgfennoalocaaGreat
