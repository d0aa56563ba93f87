/-
  The law's own functions over states: the size, the copy, equality with itself.
-/
import Derived.Test.YtkdniahincpmaaaGreatKB11
set_option maxRecDepth 100000
set_option maxHeartbeats 16000000
namespace Go.Proofs.YtkdniahincpmaaaGreat
open Go Go.RowKit Tryz
section

theorem Vp(p:Nat){X:Cx}{c:Code}{Q:Exit->AS->Prop}{σ:AS}{e:TypeId}{es:List (List D)}{dp:Bool}(hp:Qn σ.ob p=some (.row e es dp))(h:AWp X c Q ⟨σ.nt,σ.sl,(p,.row e es false)::Y5 p σ.ob⟩):AWp X c Q σ:=by
 intro a w q
 obtain⟨m,i⟩:=q
 obtain⟨y,j,f,d⟩:=i.ent hp
 have g:=i.mem.ok y j
 unfold EntOk at g
 rw[d]at g
 obtain⟨z,us,s,t,u,v,k4,k5,k6,l⟩:=g
 have k:Qfw X.P X.w0 X.Z X.O m w w p ⟨p,.row e es false,y.val,y.fs⟩ (fun _=>true):=
  ⟨i.mem,fun _ _=>rfl,fun _ x hx e=>by
    have:=i.mem.ent_unique hx j (e.trans f.symm)
    subst this
    exact⟨e.symm,rfl,by rw[d];rfl,by rw[d];rfl⟩,rfl,rfl,rfl,Xaj _,
   fun b hb hno=>rfl,fun b hb=>.inr ⟨y,j,f,by
   rcases hb with hb|⟨hd,_⟩
   ·exact .inl hb
   ·cases hd⟩,rfl,f▸i.mem.fix y j⟩
 have o:=i.swap_keep k (by
  unfold EntOk
  exact⟨z,us,s,t,u,v,k4,fun _ b hb=>k.imm_fs j f (by rw[d];rfl) k5 (fun hd=>(l hd).2.1) (fun hd b hb hq=>by
   rcases hq with hq|⟨hq,_⟩
   ·exact((l hd).2.1 b hb).2.2 hq
   ·cases hq) b hb,k6,fun h=>by cases h⟩) (fun hd=>by cases hd)
 exact h a w ⟨_,o⟩
attribute [local irreducible] AWp QI OpOk ACalls ChA QsOk MCalls EnC PY
@[reducible] def Qzz (n:Qax):AV:=.agg [zI n.leaf,zI n.cap.a,zI n.cap.b,zI n.cap.c]
@[reducible] def runA (r:Run):AV:=.agg [zI r.job.id,zI r.job.prio,zI r.job.nodes,zI r.job.need.a,zI r.job.need.b,zI r.job.need.c,zI r.job.lic.a,zI r.job.lic.b,zI r.job.lic.c,zI r.job.wall,zI r.job.level,zI r.at',zL (intE r.nodes)]
@[reducible] def endA (e:QjS):AV:=.agg [zI e.id,zI e.at',zI e.why]
def runD(r:Run):List D:=[.n .i64 r.job.id,.n .i64 r.job.prio,.n .i64 r.job.nodes,.n .i64 r.job.need.a,.n .i64 r.job.need.b,.n .i64 r.job.need.c,.n .i64 r.job.lic.a,.n .i64 r.job.lic.b,.n .i64 r.job.lic.c,.n .i64 r.job.wall,.n .i64 r.job.level,.n .i64 r.at',.sl (intE r.nodes)]
def zRun:Run:=⟨⟨0,0,0,⟨0,0,0⟩,⟨0,0,0⟩,0,0⟩,0,[]⟩
end
end Go.Proofs.YtkdniahincpmaaaGreat
