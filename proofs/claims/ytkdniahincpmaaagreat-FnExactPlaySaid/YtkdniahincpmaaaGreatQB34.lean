/-
  Journals, controllers and worlds of a law: sizes, copies as data, equality.
-/
import Derived.Test.YtkdniahincpmaaaGreatQB24
set_option maxRecDepth 100000
set_option maxHeartbeats 16000000
namespace Go.Proofs.YtkdniahincpmaaaGreat
open Go Go.RowKit Tryz
section
attribute [local irreducible] AWp QM OpOk ACalls ChA QsOk MCalls EnC PY

structure QU where
 bytes:List UInt8
 synced:Int
 count:Int
structure Ctl where
 first:Qb
 state:Qb
 jn:QU
structure Wld where
 up:Bool
 first:Qb
 ctl:Ctl
 bytes:List UInt8
 codes:List Int
@[reducible] def jnC (j:QU):List AV:=[zL (QC j.bytes),zI j.synced,zI j.count]
@[reducible] def jnA (j:QU):AV:=.agg (jnC j)
@[reducible] def ctlC (c:Ctl):List AV:=JI c.first++(JI c.state++jnC c.jn)
@[reducible] def ctlA (c:Ctl):AV:=.agg (ctlC c)
@[reducible] def wldC (w:Wld):List AV:=.d (.b w.up)::(JI w.first++(ctlC w.ctl++[zL (QC w.bytes),zL (intE w.codes)]))
@[reducible] def wldA (w:Wld):AV:=.agg (wldC w)
structure J1 (n:Nat) (c:Ctl):Prop where
 first:Qo n c.first
 state:Qo n c.state
 jn:c.jn.bytes.length<=n
structure J6 (n:Nat) (w:Wld):Prop where
 first:Qo n w.first
 ctl:J1 n w.ctl
 bytes:w.bytes.length<=n
 codes:w.codes.length<=n
theorem J1.mono{n m:Nat}{c:Ctl}(h:J1 n c)(hm:n<=m):J1 m c:=⟨h.first.mono hm,h.state.mono hm,Xam h.jn hm⟩
theorem J6.mono{n m:Nat}{w:Wld}(h:J6 n w)(hm:n<=m):J6 m w:=⟨h.first.mono hm,h.ctl.mono hm,Xam h.bytes hm,Xam h.codes hm⟩
theorem QhV{l:List UInt8}{x:Int}(h:l.length<=9223372036854775807)(hx:0<=x/\x<=1048576):SC Tryz.prog 71 (zL (QC l)) x (l.length<=1048576):=by
 refine zMC func71 fun w0 Z O=>?_
 have hl:=Qu l
 repeat'(first|(refine zhm fun hb=>?_;try exact zab)|refine zUtp ?_|refine zg2 ?_ ?_|intro _)
 ·exact zm (-1) [] (by exact⟨by omega,fun h=>by omega⟩) zae zae zae
 ·exact zm (x-l.length) [] (by exact⟨by omega,fun _=>by omega⟩) zae zae zae
theorem Qj3{j:QU}{x:Int}(h:j.bytes.length<=9223372036854775807)(hx:0<=x/\x<=1048576):SC Tryz.prog 140 (jnA j) x (j.bytes.length<=1048576):=by
 refine zMC func140 fun w0 Z O=>?_
 repeat'(first|(refine zhm fun hb=>?_;try exact zab)|refine zUto ?_|refine zg2 ?_ ?_|(refine km [] (QhV (l:=j.bytes) (x:=x) h hx) rfl rfl (fun i hi=>?_);try dsimp only at hi)|intro _)
 ·exact zm (-1) [] (by exact⟨by omega,fun h=>by omega⟩) zae zae zae
 ·exact zm i [] (by exact⟨hi.1,hi.2⟩) zae zae zae
theorem QwH{c:Ctl}{x:Int}(h:J1 9223372036854775807 c)(hx:0<=x/\x<=1048576):SC Tryz.prog 70 (ctlA c) x (J1 1048576 c):=by
 refine zMC func70 fun w0 Z O=>?_
 repeat'(first|(refine zhm fun hb=>?_;try exact zab)|refine zUto ?_|refine zg2 ?_ ?_|(refine km [] (QdK (s:=c.first) (x:=x) h.first hx) rfl rfl (fun i hi=>?_);try dsimp only at hi)|(refine km [] (QdK (s:=c.state) h.state (by omega)) rfl rfl (fun i hi=>?_);try dsimp only at hi)|(refine km [] (Qj3 (j:=c.jn) h.jn (by omega)) rfl rfl (fun i hi=>?_);try dsimp only at hi)|intro _)
 ·exact zm (-1) [] (by exact⟨by omega,fun h=>by omega⟩) zae zae zae
 ·exact zm (-1) [] (by exact⟨by omega,fun h=>by omega⟩) zae zae zae
 ·exact zm (-1) [] (by exact⟨by omega,fun h=>by omega⟩) zae zae zae
 ·rename_i i0 a _ i1 b _
  exact zm i [] (by exact⟨by omega,fun _=>⟨a.2 (by omega),b.2 (by omega),hi.2 (by omega)⟩⟩) zae zae zae
theorem Zf{w:Wld}(h:J6 9223372036854775807 w):SC Tryz.prog 24 (wldA w) 1048576 (J6 1048576 w):=by
 refine zMC func24 fun w0 Z O=>?_
 repeat'(first|(refine zhm fun hb=>?_;try exact zab)|refine zUto ?_|refine zg2 ?_ ?_|(refine km [] (QdK (s:=w.first) (x:=1048576) h.first (by omega)) rfl rfl (fun i hi=>?_);try dsimp only at hi)|(refine km [] (QwH (c:=w.ctl) h.ctl (by omega)) rfl rfl (fun i hi=>?_);try dsimp only at hi)|(refine km [] (QhV (l:=w.bytes) h.bytes (by omega)) rfl rfl (fun i hi=>?_);try dsimp only at hi)|(refine km [] (Qgs (l:=w.codes) h.codes (by omega)) rfl rfl (fun i hi=>?_);try dsimp only at hi)|intro _)
 ·exact zm (-1) [] (by exact⟨by omega,fun h=>by omega⟩) zae zae zae
 ·exact zm (-1) [] (by exact⟨by omega,fun h=>by omega⟩) zae zae zae
 ·exact zm (-1) [] (by exact⟨by omega,fun h=>by omega⟩) zae zae zae
 ·exact zm (-1) [] (by exact⟨by omega,fun h=>by omega⟩) zae zae zae
 ·rename_i i0 a _ i1 b _ i2 d _
  exact zm i [] (by exact⟨by omega,fun _=>⟨a.2 (by omega),b.2 (by omega),d.2 (by omega),hi.2 (by omega)⟩⟩) zae zae zae
theorem QiC{l:List UInt8}(h:l.length<=1048576):DC Tryz.prog 75 [zL (QC l)] [zL (QC l)]:=by
 refine zMC func75 fun w0 Z O=>?_
 have hl:=Qu l
 repeat'(first|(refine zhm fun hb=>?_;try exact zab)|refine zUtp ?_|refine zg2 ?_ ?_|intro _)
 refine Qa (fun(i:Nat)=>⟨22,[(0,zL (QC l)),(3,.row 7),(4,zI i)],[(7,.row 5 (QC (cpyL l 0 i)) true)]⟩) (fun i=>i<=l.length) (fun i=>l.length-i) 0 (by exact Xae _) ?_ ?_
 ·refine⟨rfl,?_,?_,rfl⟩
  repeat'(first|exact ze3|refine ze2 ?_ ?_|refine ze4 ?_|exact ze5|fail)
  all_goals exact zp (by first|rfl|(rw[JV];exact(List.map_replicate ..).symm)|(rw[JV];simp[QC]))
 ·intro i d
  have e:(QC (cpyL l 0 i)).length=l.length:=by rw[Qu];exact Qt _ _ d
  have c:=Qt l 0 d
  by_cases a:i<l.length
  ·repeat'(first|(refine zhm fun hb=>?_;try exact zab)|refine zUtp ?_|refine zg2 ?_ ?_|intro _)
   refine⟨i+1,by omega,by omega,?_⟩
   refine zag ?_;exact zp (Yf (f:=(fun(b:UInt8)=>([.n .u8 (b.toNat:Int)]:List D))) a)
  ·obtain rfl:i=l.length:=by omega
   repeat'(first|(refine zhm fun hb=>?_;try exact zab)|refine zUrp ?_|refine zg2 ?_ ?_|intro _)
   show AWp _ _ _ _
   refine Qp 7 rfl ?_
   refine QA ?_
   apply Qs
   refine zm () [] trivial ?_ ?_ ?_
   repeat'(first|exact ze3|refine ze2 ?_ ?_|refine ze4 ?_|exact ze5|fail)
   all_goals exact zp (by first|rfl|rw[Ye])
theorem QjL{j:QU}(h:j.bytes.length<=1048576):DC Tryz.prog 147 [jnA j] [jnA j]:=by
 refine zMC func147 fun w0 Z O=>?_
 repeat'(first|(refine zhm fun hb=>?_;try exact zab)|refine zUro ?_|refine zg2 ?_ ?_|refine kmu (QiC (l:=j.bytes) h) ?_|intro _)
 exact zDR
theorem Qu2{c:Ctl}(h:J1 1048576 c):DC Tryz.prog 74 [ctlA c] [ctlA c]:=by
 refine zMC func74 fun w0 Z O=>?_
 repeat'(first|(refine zhm fun hb=>?_;try exact zab)|refine zUro ?_|refine zg2 ?_ ?_|refine kmu (QdE (s:=c.first) h.first) ?_|refine kmu (QdE (s:=c.state) h.state) ?_|refine kmu (QjL (j:=c.jn) h.jn) ?_|intro _)
 exact zDR
theorem Qbl{w:Wld}(h:J6 1048576 w):DC Tryz.prog 26 [wldA w] [wldA w]:=by
 refine zMC func26 fun w0 Z O=>?_
 repeat'(first|(refine zhm fun hb=>?_;try exact zab)|refine zUro ?_|refine zg2 ?_ ?_|refine kmu (QdE (s:=w.first) h.first) ?_|refine kmu (Qu2 (c:=w.ctl) h.ctl) ?_|refine kmu (QiC (l:=w.bytes) h.bytes) ?_|refine kmu (QgO (l:=w.codes) h.codes) ?_|intro _)
 exact zDR
theorem QjI{l:List UInt8}(h:l.length<=1000000000) :zAc 80 [zL (QC l),zL (QC l)] [.d (.b true)] []:=by
 refine zAC func80 fun w0 Z=>?_
 have hl:=Qu l
 repeat'(first|(refine zhm fun hb=>?_;try exact zab)|refine Qd ?_|(apply zch;exact zcg)|exact zhk|refine zg3 ?_ ?_|intro _)
 all_goals first|exact absurd rfl (by assumption)|skip
 refine Qa (fun(i:Nat)=>⟨26,[(0,zL (QC l)),(1,zL (QC l)),(5,zI i)],[]⟩) (fun i=>i<=l.length) (fun i=>l.length-i) 0 (by exact Xae _) ?_ ?_
 ·exact zll
 ·intro i hi
  by_cases a:i<l.length
  ·repeat'(first|(refine zhm fun hb=>?_;try exact zab)|refine Qd ?_|(apply zch;exact zcg)|exact zhk|refine zg3 ?_ ?_|intro _)
   all_goals first|exact absurd rfl (by assumption)|skip
   exact⟨i+1,by omega,by omega,zll⟩
  ·repeat'(first|(refine zhm fun hb=>?_;try exact zab)|refine Qd ?_|(apply zch;exact zcg)|exact zhk|refine zg3 ?_ ?_|intro _)
   exact zrr
theorem Qj4{j:QU}(h:j.bytes.length<=1000000000):zAc 155 [jnA j,jnA j] [.d (.b true)] []:=by
 refine zAC func155 fun w0 Z=>?_
 repeat'(first|(refine zhm fun hb=>?_;try exact zab)|refine zUto ?_|refine zg2 ?_ ?_|refine kc (QjI (l:=j.bytes) h) rfl rfl ?_|intro _)
 all_goals first|exact absurd rfl (by assumption)|skip
 exact zrr
theorem Qwr{c:Ctl}(h:J1 1000000000 c):zAc 79 [ctlA c,ctlA c] [.d (.b true)] []:=by
 refine zAC func79 fun w0 Z=>?_
 repeat'(first|(refine zhm fun hb=>?_;try exact zab)|refine zUto ?_|refine zg2 ?_ ?_|refine kc (Qe8 (s:=c.first) h.first) rfl rfl ?_|refine kc (Qe8 (s:=c.state) h.state) rfl rfl ?_|refine kc (Qj4 (j:=c.jn) h.jn) rfl rfl ?_|intro _)
 all_goals first|exact absurd rfl (by assumption)|skip
 exact zrr
theorem JH{w:Wld}(h:J6 1000000000 w):zAc 28 [wldA w,wldA w] [.d (.b true)] []:=by
 refine zAC func28 fun w0 Z=>?_
 repeat'(first|(refine zhm fun hb=>?_;try exact zab)|refine zUto ?_|refine zg2 ?_ ?_|refine kc (Qe8 (s:=w.first) h.first) rfl rfl ?_|refine kc (Qwr (c:=w.ctl) h.ctl) rfl rfl ?_|refine kc (QjI (l:=w.bytes) h.bytes) rfl rfl ?_|refine kc (Qhm (l:=w.codes) h.codes) rfl rfl ?_|intro _)
 all_goals first|exact absurd rfl (by assumption)|skip
 exact zrr
end
section

theorem Qgw:∀{es:List (List D)},(∀q∈es,∃z,q=[D.n .u8 z]/\(Lit.int .u8 z).wf=true)->∃b,es=QC b
 | [],_=>⟨[],rfl⟩
 | q::es,h=>by
  obtain⟨z,rfl,hz⟩:=h q Xaa
  obtain⟨b,rfl⟩:=Qgw (es:=es) fun q hq=>h q (Xad _ hq)
  have hz':0<=z/\z<=255:=by
   simp[Lit.wf,IntKind.min,IntKind.max,IntKind.signed,IntKind.bits]at hz
   omega
  refine⟨UInt8.ofNat z.toNat::b,?_⟩
  have:=Qh0 hz'
  simp only[QC,Xas,Xbj,XbC,and_true]at this ⊢
  exact this
def jnD(j:QU):List D:=[.sl (QC j.bytes),.n .i64 j.synced,.n .i64 j.count]
def QyB(c:Ctl):List D:=Qmr c.first++(Qmr c.state++jnD c.jn)
def QyA(w:Wld):List D:=.b w.up::(Qmr w.first++(QyB w.ctl++[.sl (QC w.bytes),.sl (intE w.codes)]))
theorem QrW{W:World}{ds:List D}(h:TyD ⟨Tryz.prog,W,fun _=>true,NoZ,NoB,tt⟩ 40 84 ds):∃w:Wld,ds=QyA w/\J6 9223372036854775807 w:=by
 obtain⟨_,_,rfl,⟨up,rfl⟩,_,_,rfl,o,_,_,rfl,⟨_,_,rfl,m,_,_,rfl,r,_,_,rfl,⟨_,_,rfl,⟨e1,rfl,a,s⟩,_,_,rfl,⟨sy,rfl,_⟩,_,_,rfl,⟨g,rfl,_⟩,rfl⟩,rfl⟩,_,_,rfl,⟨e2,rfl,b,t⟩,_,_,rfl,⟨i,rfl,c,u⟩,rfl⟩:=h
 obtain⟨v,rfl,j⟩:=Qhb o
 obtain⟨y,rfl,k⟩:=Qhb m
 obtain⟨s3,rfl,l⟩:=Qhb r
 obtain⟨d,rfl⟩:=Qgw s
 obtain⟨e,rfl⟩:=Qgw t
 obtain⟨p,rfl,_⟩:=Qao (f:=fun x:Int=>([.n .i64 x]:List D)) (p:=fun _=>True) (es:=i) fun q hq=>by
  obtain⟨z,rfl,_⟩:=u q hq
  exact⟨z,rfl,trivial⟩
 rw[Qu]at a b
 rw[Xar]at c
 exact⟨⟨up,v,⟨y,s3,⟨d,sy,g⟩⟩,e,p⟩,rfl,⟨j,⟨k,l,a⟩,b,c⟩⟩
end
end Go.Proofs.YtkdniahincpmaaaGreat
