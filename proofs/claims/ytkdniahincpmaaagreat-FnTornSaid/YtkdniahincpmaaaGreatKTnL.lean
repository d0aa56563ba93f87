/-
  The law FnTorn, without its argument: a crash while a command is taken, over any controller that is drawn.
-/
import Derived.Test.YtkdniahincpmaaaGreatKB47
set_option maxRecDepth 100000
set_option maxHeartbeats 16000000
namespace Go.Proofs.YtkdniahincpmaaaGreat
open Go Go.RowKit Tryz
section
attribute [local irreducible] AWp QI OpOk ACalls ChA QsOk MCalls NCalls EnC PY

theorem QoD(c:Ctl)(x:Cmd)(keep:Int):(∃k,k≠0/\Qa5 c x keep=(none,k)/\ZR c x=(none,k))\/(∃d,J9 c=true/\(Jl c x).1=some d/\Qa5 c x keep=(some (d.jn.bytes.take (JO d.jn keep)),0)/\ZR c x=(some (Zj d),0)):=by
 unfold Qa5 ZR
 cases hc:J9 c with
 | false=>exact Or.inl ⟨20,by decide,rfl,rfl⟩
 | true=>
  rw[if_pos rfl,if_pos rfl]
  cases a:(Jl c x).1 with
  | none=>exact Or.inl ⟨_,YN a,rfl,rfl⟩
  | some d=>
   obtain⟨_,_,_,_,h⟩:=JU a
   exact Or.inr ⟨d,rfl,rfl,by rw[h];rfl,by rw[h];rfl⟩
theorem QxE{c:Ctl}{x:Cmd}{keep:Int}(hs:Yb 1048576 c):DC Tryz.prog 8 [ctlA c,cmdA x,zI keep] [zL (QK ((Qa5 c x keep).1.getD [])),zI (Qa5 c x keep).2]:=by
 have h:=QxD (x:=x) (keep:=keep) hs
 generalize Qa5 c x keep=o at h ⊢
 obtain⟨_|b,k⟩:=o
 ·exact WE (dc_a h)
 ·exact WE (dc_a h)
theorem QvW{c:Ctl}{x:Cmd}(hs:Yb 1048576 c):DC Tryz.prog 9 [ctlA c,cmdA x] [ctlA ((ZR c x).1.getD zC),zI (ZR c x).2]:=by
 have h:=Qx5 (x:=x) hs
 generalize ZR c x=o at h ⊢
 obtain⟨_|d,k⟩:=o
 ·exact WE (dc_a h)
 ·exact WE (dc_a h)
theorem QwY{s:Qb}{b:List UInt8}(hs:Qj 1048576 s)(hb:b.length<=1048576):DC Tryz.prog 10 [Qt s,zL (QK b)] [ctlA ((Yr s b).1.getD zC),zI (Yr s b).2]:=by
 have h:=Qj4 hs hb
 generalize Yr s b=o at h ⊢
 obtain⟨_|d,k⟩:=o
 ·exact WE (dc_a h)
 ·exact WE (dc_a h)
theorem lawTornP_e{b:List UInt8}:zAc 3 [zL (QK b)] [.d (.b true)] []:=by
 refine zAC func3 fun w0 Z=>?_
 have z:=Qy b
 by_cases y:b.length<=1048576
 ·repeat'(first|(refine zhm fun hb=>?_;try exact zab)|refine Qd ?_|(apply zch;exact zcg)|exact zhk|refine zg3 ?_ ?_|(refine km [] (Qnm y) rfl rfl (fun i hi=>?_);try dsimp only at hi)|intro _)
  obtain⟨c,x,k⟩:=i
  dsimp only at hi
  have e:=QxE (x:=x) (keep:=k) hi.small
  have h:=QvW (x:=x) hi.small
  rcases QoD c x k with ⟨q,hq,h1,h2⟩|⟨d,hok,ht,h1,h2⟩
  ·rw[h1]at e
   rw[h2]at h
   dsimp only[Option.getD]at e h
   repeat'(first|(refine zhm fun hb=>?_;try exact zab)|refine Qd ?_|(apply zch;exact zcg)|exact zhk|refine zg3 ?_ ?_|refine kmu e ?_|refine kmu h ?_|intro _)
   refine zr [] ?_ ?_
   repeat'(first|exact ze3|refine ze2 ?_ ?_|refine ze4 ?_|exact ze5|fail)
   all_goals exact zp rfl
  ·rw[h1]at e
   rw[h2]at h
   obtain⟨o,w,g3⟩:=JZ hi.small ht
   obtain⟨s,p,r,t⟩:=Qno (keep:=k) hok hi.sync ht
   obtain⟨t1,t2,t3,t4,t5⟩:=Xw hok ht
   dsimp only[Option.getD,Zj,QaA,ctlA,ctlC,Q3,jnC,List.cons_append,List.nil_append]at e h
   have hg:(d.jn.bytes.take (JO d.jn k)).length<=40000:=Xal (Xbg _ _) w
   have j:=QwY (s:=c.first) (b:=d.jn.bytes.take (JO d.jn k)) hi.small.first (by omega)
   rw[p]at j
   dsimp only[Option.getD,ctlA,ctlC,Q3,jnC,List.cons_append,List.nil_append]at j
   have l:=QcU (b:=d.jn.bytes.take (JO d.jn k)) hi.small.first (by omega) _ (by rw[p])
   have n:Qe c.state=true:=(Wv.1 hok).2.2.2
   generalize d.jn.bytes.take (JO d.jn k)=g at e j r t hg l
   have ab:=Qy g
   by_cases f:g.length=d.jn.bytes.length
   ·obtain⟨rfl,u⟩:=r f
    have m:=ZX (a:=d.state) (b:=d.state) (o.state.mono (by omega)) (o.state.mono (by omega))
    rw[QbN t4]at m
    have v:=Qhk l
    rw[u]at v
    repeat'(first|(refine zhm fun hb=>?_;try exact zab)|refine Qd ?_|(apply zch;exact zcg)|exact zhk|refine zg3 ?_ ?_|refine kmu e ?_|refine kmu h ?_|refine kmu j ?_|intro _)
    all_goals first|(exfalso;omega)|skip
    refine zr [] ?_ ?_
    repeat'(first|exact ze3|refine ze2 ?_ ?_|refine ze4 ?_|exact ze5|fail)
    all_goals exact zp rfl
   ·obtain⟨rfl,u⟩:=t f
    have m:=ZX (a:=c.state) (b:=c.state) (hi.small.state.mono (by omega)) (hi.small.state.mono (by omega))
    rw[QbN n]at m
    repeat'(first|(refine zhm fun hb=>?_;try exact zab)|refine Qd ?_|(apply zch;exact zcg)|exact zhk|refine zg3 ?_ ?_|refine kmu e ?_|refine kmu h ?_|refine kmu j ?_|intro _)
    all_goals first|(exfalso;omega)|skip
    refine zr [] ?_ ?_
    repeat'(first|exact ze3|refine ze2 ?_ ?_|refine ze4 ?_|exact ze5|fail)
    all_goals exact zp (by first|rfl|(simp;omega))
 ·repeat'(first|(refine zhm fun hb=>?_;try exact zab)|refine Qd ?_|(apply zch;exact zcg)|exact zhk|refine zg3 ?_ ?_|intro _)
  refine zr [] ?_ ?_
  repeat'(first|exact ze3|refine ze2 ?_ ?_|refine ze4 ?_|exact ze5|fail)
  all_goals exact zp rfl
end
end Go.Proofs.YtkdniahincpmaaaGreat
