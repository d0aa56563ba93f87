/-
  Journals, controllers and worlds of a law: sizes, copies as data, equality.
-/
import Derived.Test.YtelbahebpmkfjaaGreatKB7
import Derived.Test.YtelbahebpmkfjaaGreatKGlA
import Derived.Test.YtelbahebpmkfjaaGreatKB21
import Derived.Test.YtelbahebpmkfjaaGreatKB27
set_option maxRecDepth 100000
set_option maxHeartbeats 16000000
namespace Go.Proofs.YtelbahebpmkfjaaGreat
open Go Go.RowKit
attribute [local irreducible] AWp Qat OpOk ACalls ChA QsOk MCalls EnC PY

structure Journal where
 bytes:List UInt8
 synced:Int
 count:Int
structure Ctl where
 first:State
 state:State
 jn:Journal
structure Wld where
 up:Bool
 first:State
 ctl:Ctl
 bytes:List UInt8
 codes:List Int
@[reducible] def jnC (j:Journal):List AV:=[.d (.sl (QcP j.bytes)),.d (.n .i64 j.synced),.d (.n .i64 j.count)]
@[reducible] def jnA (j:Journal):AV:=.agg (jnC j)
@[reducible] def ctlC (c:Ctl):List AV:=Qbw c.first++(Qbw c.state++jnC c.jn)
@[reducible] def ctlA (c:Ctl):AV:=.agg (ctlC c)
@[reducible] def wldC (w:Wld):List AV:=.d (.b w.up)::(Qbw w.first++(ctlC w.ctl++[.d (.sl (QcP w.bytes)),.d (.sl (intE w.codes))]))
@[reducible] def wldA (w:Wld):AV:=.agg (wldC w)
structure SmallC (n:Nat) (c:Ctl):Prop where
 first:Small n c.first
 state:Small n c.state
 jn:c.jn.bytes.length≤n
structure SmallW (n:Nat) (w:Wld):Prop where
 first:Small n w.first
 ctl:SmallC n w.ctl
 bytes:w.bytes.length≤n
 codes:w.codes.length≤n
theorem SmallC.mono {n m:Nat} {c:Ctl} (h:SmallC n c) (hm:n≤m):SmallC m c:=⟨h.first.mono hm,h.state.mono hm,Nat.le_trans h.jn hm⟩
theorem SmallW.mono {n m:Nat} {w:Wld} (h:SmallW n w) (hm:n≤m):SmallW m w:=⟨h.first.mono hm,h.ctl.mono hm,Nat.le_trans h.bytes hm,Nat.le_trans h.codes hm⟩
theorem Ql7 {l:List UInt8} {x:Int} (h:l.length≤9223372036854775807) (hx:0≤x∧x≤1048576):SC Tryz.prog 93 (.d (.sl (QcP l))) x (l.length≤1048576):=by
 refine Qag tt Tryz.func93 rfl rfl rfl trivial (fun _ _=>⟨trivial,trivial⟩) (fun w0 Z O=>?_)
 have hl:=QaE l
 repeat' (first|refine zst ?_|(refine zhm fun hb=>?_;try exact zab)|refine zg2 ?_ ?_|refine zln fun _=>?_|refine zop ?_|fail)
 ·exact zm (-1) [] (by exact ⟨by omega,fun h=>by omega⟩) zae zae zae
 ·exact zm (x - l.length) [] (by exact ⟨by omega,fun _=>by omega⟩) zae zae zae
theorem Qmr {j:Journal} {x:Int} (h:j.bytes.length≤9223372036854775807) (hx:0≤x∧x≤1048576):SC Tryz.prog 128 (jnA j) x (j.bytes.length≤1048576):=by
 refine Qag tt Tryz.func128 rfl rfl rfl trivial (fun _ _=>⟨trivial,trivial⟩) (fun w0 Z O=>?_)
 repeat' (first|refine zst ?_|(refine zhm fun hb=>?_;try exact zab)|refine zg2 ?_ ?_|refine zop ?_|(refine km [] (Ql7 (l:=j.bytes) (x:=x) h hx) rfl rfl (fun i hi=>?_);(try dsimp only at hi))|fail)
 ·exact zm (-1) [] (by exact ⟨by omega,fun h=>by omega⟩) zae zae zae
 ·exact zm i [] (by exact ⟨hi.1,hi.2⟩) zae zae zae
theorem Qvl {c:Ctl} {x:Int} (h:SmallC 9223372036854775807 c) (hx:0≤x∧x≤1048576):SC Tryz.prog 34 (ctlA c) x (SmallC 1048576 c):=by
 refine Qag tt Tryz.func34 rfl rfl rfl trivial (fun _ _=>⟨trivial,trivial⟩) (fun w0 Z O=>?_)
 repeat' (first|refine zst ?_|(refine zhm fun hb=>?_;try exact zab)|refine zg2 ?_ ?_|refine zop ?_|(refine km [] (QfU (s:=c.first) (x:=x) h.first hx) rfl rfl (fun i hi=>?_);(try dsimp only at hi))|(refine km [] (QfU (s:=c.state) h.state (by omega)) rfl rfl (fun i hi=>?_);(try dsimp only at hi))|(refine km [] (Qmr (j:=c.jn) h.jn (by omega)) rfl rfl (fun i hi=>?_);(try dsimp only at hi))|fail)
 ·exact zm (-1) [] (by exact ⟨by omega,fun h=>by omega⟩) zae zae zae
 ·exact zm (-1) [] (by exact ⟨by omega,fun h=>by omega⟩) zae zae zae
 ·exact zm (-1) [] (by exact ⟨by omega,fun h=>by omega⟩) zae zae zae
 ·rename_i i0 hi0 _ i1 hi1 _
  exact zm i [] (by exact ⟨by omega,fun _=>⟨hi0.2 (by omega),hi1.2 (by omega),hi.2 (by omega)⟩⟩) zae zae zae
theorem Qmj {w:Wld} (h:SmallW 9223372036854775807 w):SC Tryz.prog 24 (wldA w) 1048576 (SmallW 1048576 w):=by
 refine Qag tt Tryz.func24 rfl rfl rfl trivial (fun _ _=>⟨trivial,trivial⟩) (fun w0 Z O=>?_)
 repeat' (first|refine zst ?_|(refine zhm fun hb=>?_;try exact zab)|refine zg2 ?_ ?_|refine zop ?_|(refine km [] (QfU (s:=w.first) (x:=1048576) h.first (by omega)) rfl rfl (fun i hi=>?_);(try dsimp only at hi))|(refine km [] (Qvl (c:=w.ctl) h.ctl (by omega)) rfl rfl (fun i hi=>?_);(try dsimp only at hi))|(refine km [] (Ql7 (l:=w.bytes) h.bytes (by omega)) rfl rfl (fun i hi=>?_);(try dsimp only at hi))|(refine km [] (Qj0 (l:=w.codes) h.codes (by omega)) rfl rfl (fun i hi=>?_);(try dsimp only at hi))|fail)
 ·exact zm (-1) [] (by exact ⟨by omega,fun h=>by omega⟩) zae zae zae
 ·exact zm (-1) [] (by exact ⟨by omega,fun h=>by omega⟩) zae zae zae
 ·exact zm (-1) [] (by exact ⟨by omega,fun h=>by omega⟩) zae zae zae
 ·exact zm (-1) [] (by exact ⟨by omega,fun h=>by omega⟩) zae zae zae
 ·rename_i i0 hi0 _ i1 hi1 _ i2 hi2 _
  exact zm i [] (by exact ⟨by omega,fun _=>⟨hi0.2 (by omega),hi1.2 (by omega),hi2.2 (by omega),hi.2 (by omega)⟩⟩) zae zae zae
theorem Qly {l:List UInt8} (h:l.length≤1048576):DC Tryz.prog 48 [.d (.sl (QcP l))] [.d (.sl (QcP l))]:=by
 refine Qag tt Tryz.func48 rfl rfl rfl trivial (fun _ _=>⟨trivial,trivial⟩) (fun w0 Z O=>?_)
 have hl:=QaE l
 repeat' (first|refine zst ?_|(refine zhm fun hb=>?_;try exact zab)|refine zg2 ?_ ?_|refine zln fun _=>?_|refine zop ?_|fail)
 refine Qae (fun (i:Nat)=>⟨22,[(0,.d (.sl (QcP l))),(3,.row 7),(4,.d (.n .i64 i))],[(7,.row 5 (QcP (cpyL l 0 i)) true)]⟩) (fun i=>i≤l.length) (fun i=>l.length - i) 0 (by exact Nat.zero_le _) ?_ ?_
 ·refine ⟨rfl,?_,?_,rfl⟩
  repeat'(first|apply And.intro|exact ze0|refine ze1 ?_|refine zei ?_ ?_|exact rfl|trivial)
  all_goals exact Stop.mk (by first|rfl|(rw [QbE];exact (List.map_replicate ..).symm)|(rw [QbE];simp [QcP]))
 ·intro i hi
  have hcl:(QcP (cpyL l 0 i)).length=l.length:=by rw [QaE];exact Qay _ _ hi
  have hcl2:=Qay l 0 hi
  by_cases hi':i<l.length
  ·repeat' (first|refine zst ?_|(refine zhm fun hb=>?_;try exact zab)|refine zg2 ?_ ?_|refine zln fun _=>?_|refine zop ?_|fail)
   refine ⟨i+1,by omega,by omega,?_⟩
   refine ⟨rfl,?_,?_,rfl⟩
   repeat'(first|apply And.intro|exact ze0|refine ze1 ?_|refine zei ?_ ?_|exact rfl|trivial)
   all_goals exact Stop.mk (by first|rfl|exact Qcf (f:=(fun (b:UInt8)=>([.n .u8 (b.toNat:Int)]:List D))) hi')
  ·obtain rfl:i=l.length:=by omega
   repeat' (first|refine zsr ?_|(refine zhm fun hb=>?_;try exact zab)|refine zg2 ?_ ?_|refine zln fun _=>?_|refine zop ?_|fail)
   show AWp _ _ _ _
   refine Qav 7 rfl ?_
   refine Qac ?_
   apply Qab
   refine zm () [] trivial ?_ ?_ ?_
   repeat'(first|apply And.intro|exact ze0|refine ze1 ?_|refine zei ?_ ?_|exact rfl|trivial)
   all_goals exact Stop.mk (by first|rfl|rw [Qch])
theorem Qmt {j:Journal} (h:j.bytes.length≤1048576):DC Tryz.prog 132 [jnA j] [jnA j]:=by
 refine Qag tt Tryz.func132 rfl rfl rfl trivial (fun _ _=>⟨trivial,trivial⟩) (fun w0 Z O=>?_)
 repeat' (first|refine zsr ?_|(refine zhm fun hb=>?_;try exact zab)|refine zg2 ?_ ?_|refine zop ?_|(refine km [] (Qly (l:=j.bytes) h) rfl rfl (fun i hi=>?_);(try dsimp only at hi))|fail)
 show AWp _ _ _ _
 refine Qac ?_
 apply Qab
 exact zm () [] trivial zae zae zae
theorem Qvp {c:Ctl} (h:SmallC 1048576 c):DC Tryz.prog 36 [ctlA c] [ctlA c]:=by
 refine Qag tt Tryz.func36 rfl rfl rfl trivial (fun _ _=>⟨trivial,trivial⟩) (fun w0 Z O=>?_)
 repeat' (first|refine zsr ?_|(refine zhm fun hb=>?_;try exact zab)|refine zg2 ?_ ?_|refine zop ?_|(refine km [] (QbD (s:=c.first) h.first) rfl rfl (fun i hi=>?_);(try dsimp only at hi))|(refine km [] (QbD (s:=c.state) h.state) rfl rfl (fun i hi=>?_);(try dsimp only at hi))|(refine km [] (Qmt (j:=c.jn) h.jn) rfl rfl (fun i hi=>?_);(try dsimp only at hi))|fail)
 show AWp _ _ _ _
 refine Qac ?_
 apply Qab
 exact zm () [] trivial zae zae zae
theorem Qqc {w:Wld} (h:SmallW 1048576 w):DC Tryz.prog 26 [wldA w] [wldA w]:=by
 refine Qag tt Tryz.func26 rfl rfl rfl trivial (fun _ _=>⟨trivial,trivial⟩) (fun w0 Z O=>?_)
 repeat' (first|refine zsr ?_|(refine zhm fun hb=>?_;try exact zab)|refine zg2 ?_ ?_|refine zop ?_|(refine km [] (QbD (s:=w.first) h.first) rfl rfl (fun i hi=>?_);(try dsimp only at hi))|(refine km [] (Qvp (c:=w.ctl) h.ctl) rfl rfl (fun i hi=>?_);(try dsimp only at hi))|(refine km [] (Qly (l:=w.bytes) h.bytes) rfl rfl (fun i hi=>?_);(try dsimp only at hi))|(refine km [] (Qj7 (l:=w.codes) h.codes) rfl rfl (fun i hi=>?_);(try dsimp only at hi))|fail)
 show AWp _ _ _ _
 refine Qac ?_
 apply Qab
 exact zm () [] trivial zae zae zae
theorem QlK {l:List UInt8} (h:l.length≤1000000000) :ACalls Tryz.prog 43 [.d (.sl (QcP l)),.d (.sl (QcP l))] [.d (.b true)] []:=by
 refine Qaa tt Tryz.func43 rfl rfl rfl (fun w0 Z=>?_)
 have hl:=QaE l
 repeat' (first|refine zst ?_|(refine zhm fun hb=>?_;try exact zab)|refine zdr ?_|(apply zch;exact zcg)|refine HopS.mk fun w0 Z O=>?_|exact zhk|refine zg3 ?_ ?_|refine zln fun _=>?_|refine zop ?_|fail)
 all_goals first|exact absurd rfl (by assumption)|skip
 refine Qae (fun (i:Nat)=>⟨26,[(0,.d (.sl (QcP l))),(1,.d (.sl (QcP l))),(5,.d (.n .i64 i))],[]⟩) (fun i=>i≤l.length) (fun i=>l.length - i) 0 (by exact Nat.zero_le _) ?_ ?_
 ·exact ⟨rfl,zae,zae,rfl⟩
 ·intro i hi
  by_cases hi':i<l.length
  ·repeat' (first|refine zst ?_|(refine zhm fun hb=>?_;try exact zab)|refine zdr ?_|(apply zch;exact zcg)|refine HopS.mk fun w0 Z O=>?_|exact zhk|refine zg3 ?_ ?_|refine zln fun _=>?_|refine zop ?_|fail)
   all_goals first|exact absurd rfl (by assumption)|skip
   refine ⟨i+1,by omega,by omega,?_⟩
   exact ⟨rfl,zae,zae,rfl⟩
  ·repeat' (first|refine zst ?_|(refine zhm fun hb=>?_;try exact zab)|refine zdr ?_|(apply zch;exact zcg)|refine HopS.mk fun w0 Z O=>?_|exact zhk|refine zg3 ?_ ?_|refine zln fun _=>?_|refine zop ?_|fail)
   exact zr [] zae zae
theorem Qmz {j:Journal} (h:j.bytes.length≤1000000000):ACalls Tryz.prog 137 [jnA j,jnA j] [.d (.b true)] []:=by
 refine Qaa tt Tryz.func137 rfl rfl rfl (fun w0 Z=>?_)
 repeat' (first|refine zst ?_|(refine zhm fun hb=>?_;try exact zab)|refine zg2 ?_ ?_|refine zop ?_|refine kc (QlK (l:=j.bytes) h) rfl rfl ?_|fail)
 all_goals first|exact absurd rfl (by assumption)|skip
 exact zr [] zae zae
theorem QvA {c:Ctl} (h:SmallC 1000000000 c):ACalls Tryz.prog 38 [ctlA c,ctlA c] [.d (.b true)] []:=by
 refine Qaa tt Tryz.func38 rfl rfl rfl (fun w0 Z=>?_)
 repeat' (first|refine zst ?_|(refine zhm fun hb=>?_;try exact zab)|refine zg2 ?_ ?_|refine zop ?_|refine kc (QaQ (s:=c.first) h.first) rfl rfl ?_|refine kc (QaQ (s:=c.state) h.state) rfl rfl ?_|refine kc (Qmz (j:=c.jn) h.jn) rfl rfl ?_|fail)
 all_goals first|exact absurd rfl (by assumption)|skip
 exact zr [] zae zae
theorem QlD {w:Wld} (h:SmallW 1000000000 w):ACalls Tryz.prog 19 [wldA w,wldA w] [.d (.b true)] []:=by
 refine Qaa tt Tryz.func19 rfl rfl rfl (fun w0 Z=>?_)
 repeat' (first|refine zst ?_|(refine zhm fun hb=>?_;try exact zab)|refine zg2 ?_ ?_|refine zop ?_|refine kc (QaQ (s:=w.first) h.first) rfl rfl ?_|refine kc (QvA (c:=w.ctl) h.ctl) rfl rfl ?_|refine kc (QlK (l:=w.bytes) h.bytes) rfl rfl ?_|refine kc (QhD (l:=w.codes) h.codes) rfl rfl ?_|fail)
 all_goals first|exact absurd rfl (by assumption)|skip
 exact zr [] zae zae
end Go.Proofs.YtelbahebpmkfjaaGreat
namespace Go.Proofs.YtelbahebpmkfjaaGreat
open Go Go.RowKit

theorem QjV:∀{es:List (List D)},(∀q∈es,∃z,q=[D.n .u8 z]∧(Lit.int .u8 z).wf=true)→∃b,es=QcP b
 | [],_=>⟨[],rfl⟩
 | q::es,h=>by
  obtain ⟨z,rfl,hz⟩:=h q List.mem_cons_self
  obtain ⟨b,rfl⟩:=QjV (es:=es) fun q hq=>h q (List.mem_cons_of_mem _ hq)
  have hz':0≤z∧z≤255:=by
   simp [Lit.wf,IntKind.min,IntKind.max,IntKind.signed,IntKind.bits] at hz
   omega
  refine ⟨UInt8.ofNat z.toNat::b,?_⟩
  have:=QlZ hz'
  simp only [QcP,List.map_cons,List.map_nil,List.cons.injEq,and_true] at this ⊢
  exact this
def jnD (j:Journal):List D:=[.sl (QcP j.bytes),.n .i64 j.synced,.n .i64 j.count]
def Qx0 (c:Ctl):List D:=Qn7 c.first++(Qn7 c.state++jnD c.jn)
def QxS (w:Wld):List D:=.b w.up::(Qn7 w.first++(Qx0 w.ctl++[.sl (QcP w.bytes),.sl (intE w.codes)]))
theorem Quu {W:World} {ds:List D} (h:TyD ⟨Tryz.prog,W,fun _=>true,NoZ,NoB,tt⟩ 40 63 ds):∃w:Wld,ds=QxS w∧SmallW 9223372036854775807 w:=by
 obtain ⟨_,_,rfl,⟨up,rfl⟩,_,_,rfl,hF,_,_,rfl,⟨_,_,rfl,hC,_,_,rfl,hS,_,_,rfl,⟨_,_,rfl,⟨e1,rfl,l1,q1⟩,_,_,rfl,⟨sy,rfl,_⟩,_,_,rfl,⟨co,rfl,_⟩,rfl⟩,rfl⟩,_,_,rfl,⟨e2,rfl,l2,q2⟩,_,_,rfl,⟨e3,rfl,l3,q3⟩,rfl⟩:=h
 obtain ⟨s1,rfl,h1⟩:=Qfk hF
 obtain ⟨s2,rfl,h2⟩:=Qfk hC
 obtain ⟨s3,rfl,h3⟩:=Qfk hS
 obtain ⟨b1,rfl⟩:=QjV q1
 obtain ⟨b2,rfl⟩:=QjV q2
 obtain ⟨p,rfl,_⟩:=Qgr (f:=fun x:Int=>([.n .i64 x]:List D)) (p:=fun _=>True) (es:=e3) fun q hq=>by
  obtain ⟨z,rfl,_⟩:=q3 q hq
  exact ⟨z,rfl,trivial⟩
 rw [QaE] at l1 l2
 rw [List.length_map] at l3
 exact ⟨⟨up,s1,⟨s2,s3,⟨b1,sy,co⟩⟩,b2,p⟩,rfl,⟨h1,⟨h2,h3,l1⟩,l2,l3⟩⟩
end Go.Proofs.YtelbahebpmkfjaaGreat
