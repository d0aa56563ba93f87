/-
  Journals, controllers and worlds of a law: sizes, copies as data, equality.
-/
import Derived.Test.YtkdniahincpmaaaGreatKB25
set_option maxRecDepth 100000
set_option maxHeartbeats 16000000
namespace Go.Proofs.YtkdniahincpmaaaGreat
open Go Go.RowKit Tryz
section
attribute [local irreducible] AWp QI OpOk ACalls ChA QsOk MCalls EnC PY

structure Q7 where
 bytes:List UInt8
 synced:Int
 count:Int
structure Ctl where
 first:Qb
 state:Qb
 jn:Q7
structure Wld where
 up:Bool
 first:Qb
 ctl:Ctl
 bytes:List UInt8
 codes:List Int
@[reducible] def jnC (j:Q7):List AV:=[zL (QK j.bytes),zI j.synced,zI j.count]
@[reducible] def jnA (j:Q7):AV:=.agg (jnC j)
@[reducible] def ctlC (c:Ctl):List AV:=Q3 c.first++(Q3 c.state++jnC c.jn)
@[reducible] def ctlA (c:Ctl):AV:=.agg (ctlC c)
@[reducible] def wldC (w:Wld):List AV:=.d (.b w.up)::(Q3 w.first++(ctlC w.ctl++[zL (QK w.bytes),zL (intE w.codes)]))
@[reducible] def wldA (w:Wld):AV:=.agg (wldC w)
structure Yb (n:Nat) (c:Ctl):Prop where
 first:Qj n c.first
 state:Qj n c.state
 jn:c.jn.bytes.length<=n
structure Xb (n:Nat) (w:Wld):Prop where
 first:Qj n w.first
 ctl:Yb n w.ctl
 bytes:w.bytes.length<=n
 codes:w.codes.length<=n
theorem Yb.mono{n m:Nat}{c:Ctl}(h:Yb n c)(hm:n<=m):Yb m c:=⟨h.first.mono hm,h.state.mono hm,Xal h.jn hm⟩
theorem Xb.mono{n m:Nat}{w:Wld}(h:Xb n w)(hm:n<=m):Xb m w:=⟨h.first.mono hm,h.ctl.mono hm,Xal h.bytes hm,Xal h.codes hm⟩
end
section

def jnD(j:Q7):List D:=[.sl (QK j.bytes),.n .i64 j.synced,.n .i64 j.count]
def Qzf(c:Ctl):List D:=QpS c.first++(QpS c.state++jnD c.jn)
def QzE(w:Wld):List D:=.b w.up::(QpS w.first++(Qzf w.ctl++[.sl (QK w.bytes),.sl (intE w.codes)]))
end
end Go.Proofs.YtkdniahincpmaaaGreat
