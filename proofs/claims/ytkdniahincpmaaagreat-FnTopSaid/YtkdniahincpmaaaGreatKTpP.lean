/-
  Plain law: in a valid state no node and no licence is used beyond what there is.
-/
import Derived.Test.YtkdniahincpmaaaGreatKB43
set_option maxRecDepth 100000
set_option maxHeartbeats 16000000
namespace Go.Proofs.YtkdniahincpmaaaGreat
open Go Go.RowKit Tryz
section

def QfB(v u:V3):V3:=(addO v u).getD zV
theorem Qjc{v:V3}:Qf v=true↔(0<=v.a/\v.a<=1000000)/\(0<=v.b/\v.b<=1000000)/\(0<=v.c/\v.c<=1000000):=by
 unfold Qf
 rw[Xab,Xab,JA,JA,JA,and_assoc]
theorem QgR{c:V3}(hc:Qf c=true):∀{l:List V3} {acc:V3},(∀v∈l,Qf v=true)->Qf acc=true->leV (addV acc (sumV l)) c->l.foldl QfB acc=addV acc (sumV l)
 | [],acc,_,_,_=>(XD acc).symm
 | v::l,acc,hp,ha,hle=>by
  have hv:=hp v Xac
  have h0:=Qaq (l:=l) fun u hu=>J7 (hp u (Xae _ hu))
  have hav:Qf (addV acc v)=true:=by
   rw[Qjc]at *
   simp only[leV,sumV,addV,zV]at *
   omega
  have e:QfB acc v=addV acc v:=by
   unfold QfB addO valO
   rw[if_pos (by rw[ha,hv,hav];rfl)]
   rfl
  have ea:addV acc (sumV (v::l))=addV (addV acc v) (sumV l):=by
   rw[sumV]
   exact Xs (by simp only[addV];omega) (by simp only[addV];omega) (by simp only[addV];omega)
  rw[XaU,e,ea]
  rw[ea]at hle
  exact QgR hc (fun u hu=>hp u (Xae _ hu)) hav hle
theorem QhF(n:Int):∀(l:List Run) (v:V3),l.foldl (useS n) v=((l.filter fun x=>hasI x.nodes n).map fun x=>x.job.need).foldl QfB v
 | [],_=>rfl
 | x::l,v=>by
  rw[XaU,Xa6]
  unfold useS
  by_cases h:hasI x.nodes n=true
  ·rw[if_pos h,if_pos h,Xat,XaU]
   exact QhF n l _
  ·rw[if_neg h,if_neg h]
   exact QhF n l _
def licV(l:List Run):V3:=l.foldl (fun v x=>QfB v x.job.lic) zV
theorem Qlg:∀(l:List Run) (v:V3),l.foldl (fun v x=>QfB v x.job.lic) v=(l.map fun x=>x.job.lic).foldl QfB v
 | [],_=>rfl
 | x::l,v=>by
  rw[XaU,Xat,XaU]
  exact Qlg l _
theorem QgE(v:V3):addV zV v=v:=Xs (by simp[addV,zV]) (by simp[addV,zV]) (by simp[addV,zV])
theorem Qqm{a b:V3}(ha:Qf a=true)(hb:Qf b=true)(h:leV a b):Vk a b=true:=by
 unfold Vk
 rw[ha,hb,decide_eq_true h.1,decide_eq_true h.2.1,decide_eq_true h.2.2]
 rfl
theorem QyH{a b:V3}(h0:leV zV a)(hb:Qf b=true)(h:leV a b):Qf a=true:=by
 rw[Qjc]at *
 simp only[leV,zV]at *
 omega
theorem QbB{s:Qb}(h:Qe s=true):Qxl s.topo s.lic s.now s.runs/\0<=s.now:=by
 obtain⟨r,a⟩:=XaO.1 (pB_t.1 h).room
 exact⟨Qqj a,(QqD a).now.1⟩
theorem QtC{s:Qb}(h:Qe s=true){k:Nat}(hk:k<s.topo.nodes.length):Vk (useO s k) (nth s.topo.nodes k).cap=true:=by
 obtain⟨d,i⟩:=QbB h
 have a:=((Zl h).topo.nodes k hk).2.2
 have b:∀x∈s.runs,Qk x.job=true:=fun x b=>(ZA.1 (d.ok x b).1).1
 have c:=d.node k hk s.now i
 have e:demN s.now s.runs k s.now=sumV ((s.runs.filter fun x=>hasI x.nodes (k:Int)).map fun x=>x.job.need):=by
  unfold demN
  congr 2
  refine XbR fun x b=>?_
  have:=(ZA.1 (d.ok x b).1).2.2.1
  have l:winB s.now s.now x=true:=by
   unfold winB
   rw[decide_eq_true (Xbe _),decide_eq_true (by omega:s.now<x.at'+x.job.wall)]
   rfl
  rw[l,Xbw]
 rw[e]at c
 have g:∀v∈(s.runs.filter fun x=>hasI x.nodes (k:Int)).map fun x=>x.job.need,Qf v=true:=fun v hv=>by
  obtain⟨x,f,rfl⟩:=Xaf.1 hv
  exact(Z0 (b x (Xay.1 f).1)).1
 have j:useO s k=useV k s.runs:=if_pos ⟨h,by omega,by omega⟩
 rw[j,useV,QhF,QgR a g (by rfl) (by rw[QgE];exact c),QgE]
 exact Qqm (QyH (Qaq fun v hv=>J7 (g v hv)) a c) a c
theorem Qr5{s:Qb}(h:Qe s=true):Vk (licV s.runs) s.lic=true:=by
 obtain⟨d,i⟩:=QbB h
 have a:=(Zl h).lic
 have b:∀x∈s.runs,Qk x.job=true:=fun x b=>(ZA.1 (d.ok x b).1).1
 have c:=d.lic s.now i
 have e:demL s.now s.runs s.now=sumV (s.runs.map fun x=>x.job.lic):=by
  unfold demL
  congr 2
  refine Xcd.2 fun x b=>?_
  have:=(ZA.1 (d.ok x b).1).2.2.1
  unfold winB
  rw[decide_eq_true (Xbe _),decide_eq_true (by omega:s.now<x.at'+x.job.wall)]
  rfl
 rw[e]at c
 have g:∀v∈s.runs.map fun x=>x.job.lic,Qf v=true:=fun v hv=>by
  obtain⟨x,f,rfl⟩:=Xaf.1 hv
  exact(Z0 (b x f)).2
 rw[licV,Qlg,QgR a g (by rfl) (by rw[QgE];exact c),QgE]
 exact Qqm (QyH (Qaq fun v hv=>J7 (g v hv)) a c) a c
theorem QtM{s:Qb}(h:Qe s=true){i:Nat}(hi:i<s.runs.length):lvl s.topo.parents (lowI s.topo (nth s.runs i).nodes).toNat<=(nth s.runs i).job.level/\((nth s.runs i).nodes.length:Int)=(nth s.runs i).job.nodes:=by
 obtain⟨a,_⟩:=QbB h
 exact⟨((pB_t.1 h).runs i hi).level,(a.ok _ (QC hi)).2.num⟩
end
end Go.Proofs.YtkdniahincpmaaaGreat
