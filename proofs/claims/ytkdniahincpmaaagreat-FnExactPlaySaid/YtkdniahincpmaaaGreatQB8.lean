/-
  Vectors, jobs: VecOk, JobOk, both.
-/
import Derived.Test.YtkdniahincpmaaaGreatQB7
import Derived.Test.YtkdniahincpmaaaGreatQTI
set_option maxRecDepth 100000
set_option maxHeartbeats 16000000
namespace Go.Proofs.YtkdniahincpmaaaGreat
open Go Go.RowKit Tryz
section
attribute [local irreducible] AWp QM OpOk ACalls ChA QsOk MCalls EnC PY
abbrev zI(x:Int):AV:=.d (.n .i64 x)
abbrev zL(l:List (List D)):AV:=.d (.sl l)
abbrev zAc:=ACalls Tryz.prog
theorem zAC {f : FuncId} {fn : Func} {c : Code} {args rs : List AV} {rob : List (Nat × AO)} (hf : Tryz.prog.funcs[f]? = some fn) (h : ∀ (w0 : World) (Z : ZV fre0), AWp ⟨Tryz.prog, w0, fre0, Z, NoB, tt⟩ c (retQ ⟨Tryz.prog, w0, fre0, Z, NoB, tt⟩ fn rs rob) (QfT fn.ntmps args)) (h1 : (fn.name == "runtime.NumGoroutine") = false := by exact rfl) (hb : fn.body = some c := by exact rfl) (hn : Nat.ble args.length fn.ntmps = true := by exact rfl) : ACalls Tryz.prog f args rs rob := QeZ tt hf h1 hb hn h
theorem zMC {ι : Type} {f : FuncId} {fn : Func} {c : Code} {args : List AV} {ok : ι → Prop} {rs : ι → List AV} {rob : ι → List (Nat × AO)} (hf : Tryz.prog.funcs[f]? = some fn) (h : ∀ (w0 : World) (Z : ZV fre0) (O : Nat → Prop), AWp ⟨Tryz.prog, w0, fre0, Z, O, tt⟩ c (retM ⟨Tryz.prog, w0, fre0, Z, O, tt⟩ fn ok rs (fun _ => []) rob) ⟨fn.ntmps, Qfk 0 args, []⟩) (h1 : (fn.name == "runtime.NumGoroutine") = false := by exact rfl) (hb : fn.body = some c := by exact rfl) (hn : Nat.ble args.length fn.ntmps = true := by exact rfl) : MCalls Tryz.prog f args [] ok rs (fun _ => []) rob := Jb tt hf h1 hb hn trivial (fun _ _ => ⟨trivial, trivial⟩) h

def inB(x lo hi:Int):Bool:=decide (lo<=x)&&decide (x<=hi)
theorem J4{x lo hi:Int}:(inB x lo hi=true)=(lo<=x/\x<=hi):=by simp[inB]
theorem Qnt{x lo hi:Int}:(inB x lo hi=false)=(x<lo\/hi<x):=by
 simp only[inB,Bool.and_eq_false_iff,decide_eq_false_iff_not,Int.not_le]
theorem QxZ{x lo hi:Int}:((!inB x lo hi)=true)=(x<lo\/hi<x):=by rw[Xa6,Qnt]
theorem QxK{x lo hi:Int}:((!inB x lo hi)=false)=(lo<=x/\x<=hi):=by rw[Bool.not_eq_false',J4]
instance (x lo hi:Int):HbT (inB x lo hi=true) (lo<=x/\x<=hi):=⟨fun h=>J4▸h⟩
instance (x lo hi:Int):HbT (inB x lo hi=false) (x<lo\/hi<x):=⟨fun h=>Qnt▸h⟩
instance (x lo hi:Int):HbT ((!inB x lo hi)=true) (x<lo\/hi<x):=⟨fun h=>QxZ▸h⟩
instance (x lo hi:Int):HbT ((!inB x lo hi)=false) (lo<=x/\x<=hi):=⟨fun h=>QxK▸h⟩
structure V3 where
 a:Int
 b:Int
 c:Int
structure Job where
 id:Int
 prio:Int
 nodes:Int
 need:V3
 lic:V3
 wall:Int
 level:Int
@[reducible] def vecA (v:V3):AV:=.agg [zI v.a,zI v.b,zI v.c]
@[reducible] def jobA (j:Job):AV:=.agg [zI j.id,zI j.prio,zI j.nodes,zI j.need.a,zI j.need.b,zI j.need.c,zI j.lic.a,zI j.lic.b,zI j.lic.c,zI j.wall,zI j.level]
def Qh(v:V3):Bool:=inB v.a 0 1000000&&inB v.b 0 1000000&&inB v.c 0 1000000
def Qm(j:Job):Bool:=inB j.id 1 999&&inB j.prio 0 999&&inB j.nodes 1 24&&Qh j.need&&Qh j.lic&&inB j.wall 1 1000000&&inB j.level 0 24
theorem Q5{x lo hi:Int}:zAc 62 [zI x,zI lo,zI hi] [.d (.b (inB x lo hi))] []:=by
 refine zAC func62 fun w0 Z=>?_
 repeat'(first|(refine zhm fun hb=>?_;try exact zab)|refine zUto ?_|refine zg2 ?_ ?_|intro _)
 all_goals
  refine zr [] ?_ ?_
  repeat'(first|exact ze3|refine ze2 ?_ ?_|refine ze4 ?_|exact ze5|fail)
  refine zp ?_
  simp[inB, *]
theorem W7{x:Int}:zAc 189 [zI x] [.d (.b (inB x 0 1000000000))] []:=by
 refine zAC func189 fun w0 Z=>?_
 repeat'(first|(refine zhm fun hb=>?_;try exact zab)|refine zUto ?_|refine zg2 ?_ ?_|refine zqj Q5 ?_|intro _)
 all_goals
  refine zr [] ?_ ?_
  repeat'(first|exact ze3|refine ze2 ?_ ?_|refine ze4 ?_|exact ze5|fail)
theorem Yu{v:V3}:zAc 61 [vecA v] [.d (.b (Qh v))] []:=by
 refine zAC func61 fun w0 Z=>?_
 repeat'(first|(refine zhm fun hb=>?_;try exact zab)|refine zUto ?_|refine zg2 ?_ ?_|refine zqj Q5 ?_|intro _)
 all_goals
  refine zr [] ?_ ?_
  repeat'(first|exact ze3|refine ze2 ?_ ?_|refine ze4 ?_|exact ze5|fail)
  refine zp ?_
  first
   | done
   | (rw[Bool.eq_iff_iff];simp[Qh,inB]at *;omega)
   | (rw[Bool.eq_iff_iff];simp[Qh,inB]at *;done)
   | (rw[Bool.eq_iff_iff];simp[Qh,inB]at *;simp[*];done)
   | (rw[Bool.eq_iff_iff];simp[Qh,inB]at *;simp[*];omega)
   | (rw[Bool.eq_iff_iff];simp[Qh,inB]at *;simp[*];intros;omega)
theorem Xf{j:Job}:zAc 195 [jobA j] [.d (.b (Qm j))] []:=by
 refine zAC func195 fun w0 Z=>?_
 repeat'(first|(refine zhm fun hb=>?_;try exact zab)|refine zUto ?_|refine zg2 ?_ ?_|refine zqj Q5 ?_|refine kc (Yu (v:=j.need)) rfl rfl ?_|refine kc (Yu (v:=j.lic)) rfl rfl ?_|intro _)
 all_goals
  refine zr [] ?_ ?_
  repeat'(first|exact ze3|refine ze2 ?_ ?_|refine ze4 ?_|exact ze5|fail)
  refine zp ?_
  first
   | done
   | (rw[Bool.eq_iff_iff];simp[Qm,Qh,inB]at *;omega)
   | (rw[Bool.eq_iff_iff];simp[Qm,Qh,inB]at *;done)
   | (rw[Bool.eq_iff_iff];simp[Qm,Qh,inB]at *;simp[*];done)
   | (rw[Bool.eq_iff_iff];simp[Qm,Qh,inB]at *;simp[*];omega)
   | (rw[Bool.eq_iff_iff];simp[Qm,Qh,inB]at *;simp[*];intros;omega)
theorem QyC{x:Int}:zAc 239 [zI x] [.d (.b (inB x 0 1000000))] []:=by
 refine zAC func239 fun w0 Z=>?_
 repeat'(first|(refine zhm fun hb=>?_;try exact zab)|refine zUto ?_|refine zg2 ?_ ?_|intro _)
 all_goals
  refine zr [] ?_ ?_
  repeat'(first|exact ze3|refine ze2 ?_ ?_|refine ze4 ?_|exact ze5|fail)
  refine zp ?_
  first
   | done
   | (rw[Bool.eq_iff_iff];simp[inB]at *;omega)
   | (rw[Bool.eq_iff_iff];simp[inB]at *;done)
   | (rw[Bool.eq_iff_iff];simp[inB]at *;simp[*];done)
   | (rw[Bool.eq_iff_iff];simp[inB]at *;simp[*];omega)
   | (rw[Bool.eq_iff_iff];simp[inB]at *;simp[*];intros;omega)
theorem Wh{x:Int}:zAc 175 [zI x] [.d (.b (inB x 0 1000000000))] []:=by
 refine zAC func175 fun w0 Z=>?_
 repeat'(first|(refine zhm fun hb=>?_;try exact zab)|refine zUto ?_|refine zg2 ?_ ?_|intro _)
 all_goals
  refine zr [] ?_ ?_
  repeat'(first|exact ze3|refine ze2 ?_ ?_|refine ze4 ?_|exact ze5|fail)
  refine zp ?_
  first
   | done
   | (rw[Bool.eq_iff_iff];simp[inB]at *;omega)
   | (rw[Bool.eq_iff_iff];simp[inB]at *;done)
   | (rw[Bool.eq_iff_iff];simp[inB]at *;simp[*];done)
   | (rw[Bool.eq_iff_iff];simp[inB]at *;simp[*];omega)
   | (rw[Bool.eq_iff_iff];simp[inB]at *;simp[*];intros;omega)
theorem J9{v:V3}:zAc 177 [vecA v] [.d (.b (Qh v))] []:=by
 refine zAC func177 fun w0 Z=>?_
 repeat'(first|(refine zhm fun hb=>?_;try exact zab)|refine zUto ?_|refine zg2 ?_ ?_|refine zqj QyC ?_|intro _)
 all_goals
  refine zr [] ?_ ?_
  repeat'(first|exact ze3|refine ze2 ?_ ?_|refine ze4 ?_|exact ze5|fail)
  refine zp ?_
  first
   | done
   | (rw[Bool.eq_iff_iff];simp[Qh,inB]at *;omega)
   | (rw[Bool.eq_iff_iff];simp[Qh,inB]at *;done)
   | (rw[Bool.eq_iff_iff];simp[Qh,inB]at *;simp[*];done)
   | (rw[Bool.eq_iff_iff];simp[Qh,inB]at *;simp[*];omega)
   | (rw[Bool.eq_iff_iff];simp[Qh,inB]at *;simp[*];intros;omega)
theorem Qe6{j:Job}:zAc 176 [jobA j] [.d (.b (Qm j))] []:=by
 refine zAC func176 fun w0 Z=>?_
 repeat'(first|(refine zhm fun hb=>?_;try exact zab)|refine zUto ?_|refine zg2 ?_ ?_|refine kc (J9 (v:=j.need)) rfl rfl ?_|refine kc (J9 (v:=j.lic)) rfl rfl ?_|intro _)
 all_goals
  refine zr [] ?_ ?_
  repeat'(first|exact ze3|refine ze2 ?_ ?_|refine ze4 ?_|exact ze5|fail)
  refine zp ?_
  first
   | done
   | (rw[Bool.eq_iff_iff];simp[Qm,Qh,inB]at *;omega)
   | (rw[Bool.eq_iff_iff];simp[Qm,Qh,inB]at *;done)
   | (rw[Bool.eq_iff_iff];simp[Qm,Qh,inB]at *;simp[*];done)
   | (rw[Bool.eq_iff_iff];simp[Qm,Qh,inB]at *;simp[*];omega)
   | (rw[Bool.eq_iff_iff];simp[Qm,Qh,inB]at *;simp[*];intros;omega)

structure Qar where
 leaf:Int
 cap:V3
instance:Inhabited Qar:=⟨⟨0,⟨0,0,0⟩⟩⟩
structure QX where
 parents:List Int
 nodes:List Qar
def Qr(l:List Qar):List (List D):=l.map fun n=>[.n .i64 n.leaf,.n .i64 n.cap.a,.n .i64 n.cap.b,.n .i64 n.cap.c]
@[reducible] def YW (t:QX):AV:=.agg [zL (intE t.parents),zL (Qr t.nodes)]
theorem Qw(l:List Qar):(Qr l).length=l.length:=by simp[Qr]
def hasI(l:List Int)(x:Int):Bool:=l.any fun y=>y==x
def idxI(l:List Int)(x:Int):Int:=if hasI l x=true then((l.findIdx fun y=>y==x:Nat):Int)else -1
theorem Qbg{l:List Int}{x:Int}:hasI l x=true↔∃j,j<l.length/\nth l j=x:=by
 unfold hasI
 rw[XaV]
 constructor
 ·rintro ⟨y,b,h⟩
  obtain⟨j,a,e⟩:=List.mem_iff_getElem.1 b
  exact⟨j,a,by simp only[nth,List.getD,List.getElem?_eq_getElem a,XaJ,e];exact beq_iff_eq.1 h⟩
 ·rintro ⟨j,a,h⟩
  refine⟨l[j],Xbm a,?_⟩
  simp only[nth,List.getD,List.getElem?_eq_getElem a,XaJ]at h
  rw[h]
  exact beq_self_eq_true x
theorem Qom{l:List Int}{x:Int}(h:∀j,j<l.length->nth l j≠x):hasI l x=false:=by
 cases e:hasI l x with
 | false=>rfl
 | true=>
  obtain⟨j,a,b⟩:=Qbg.1 e
  exact absurd b (h j a)
theorem QtL{l:List Int}{x:Int}{i:Nat}(hi:i<l.length)(h:nth l i=x)(hp:∀j,j<i->nth l j≠x):idxI l x=i:=by
 unfold idxI
 rw[if_pos (Qbg.2 ⟨i,hi,h⟩)]
 have e:∀{j:Nat} (hj:j<l.length),nth l j=l[j]:=fun hj=>by simp[nth,List.getD,hj]
 congr 1
 rw[List.findIdx_eq hi]
 refine⟨by rw[<-e hi,h];exact beq_self_eq_true x,fun j hj=>?_⟩
 have:=hp j hj
 rw[e (by omega)]at this
 rw[beq_eq_false_iff_ne]
 exact this
theorem QwD{l:List Int}{x:Int}(h:∀j,j<l.length->nth l j≠x):idxI l x = -1:=by
 unfold idxI
 rw[if_neg (by rw[Qom h];decide)]
theorem QtY(l:List Int)(x:Int):decide (0<=idxI l x)=hasI l x:=by
 unfold idxI
 cases h:hasI l x with
 | true=>rw[if_pos rfl];simp
 | false=>rw[if_neg (by decide)];decide
theorem Qvo{l:List Int}{x:Int}(h:l.length<=1000000000):zAc 134 [zL (intE l),zI x] [zI (idxI l x)] []:=by
 refine zAC func134 fun w0 Z=>?_
 repeat'(first|(refine zhm fun hb=>?_;try exact zab)|refine zUtp ?_|refine zg2 ?_ ?_|intro _)
 refine Qa (fun(i:Nat)=>⟨19,[(0,zL (intE l)),(1,zI x),(7,zI (l.length:Nat)),(8,zI i)],[]⟩) (fun i=>i<=l.length/\∀j,j<i->nth l j≠x) (fun i=>l.length-i) 0 (by exact⟨Xae _,fun j hj=>absurd hj (Xaq _)⟩) ?_ ?_
 ·exact zll
 ·rintro i ⟨hi,a⟩
  repeat'(first|(refine zhm fun hb=>?_;try exact zab)|refine zUtp ?_|refine zg2 ?_ ?_|intro _)
  ·rw[QtL (by omega) hb.symm a]
   exact zrr
  ·refine⟨i+1,⟨by omega,fun j hj=>?_⟩,by omega,?_⟩
   ·by_cases e:j=i
    ·subst e;exact fun e=>hb e.symm
    ·exact a j (by omega)
   exact zll
  ·rw[QwD (fun j hj=>a j (by omega))]
   exact zrr
theorem Vt{l:List Int}{x:Int}(h:l.length<=1000000000):zAc 67 [zL (intE l),zI x] [.d (.b (hasI l x))] []:=by
 refine zAC func67 fun w0 Z=>?_
 repeat'(first|(refine zhm fun hb=>?_;try exact zab)|refine zUto ?_|refine zg2 ?_ ?_|refine kc (Qvo h) rfl rfl ?_|intro _)
 refine zr [] ?_ ?_
 repeat'(first|exact ze3|refine ze2 ?_ ?_|refine ze4 ?_|exact ze5|fail)
 all_goals exact zp (QtY l x)
theorem WX{l:List Int}{x:Int}(h:l.length<=1000000000):zAc 267 [zL (intE l),zI x] [.d (.b (hasI l x))] []:=by
 refine zAC func267 fun w0 Z=>?_
 repeat'(first|(refine zhm fun hb=>?_;try exact zab)|refine zUtp ?_|refine zg2 ?_ ?_|intro _)
 refine Qa (fun(i:Nat)=>⟨17,[(1,zI x),(7,zL (intE l)),(8,zI (l.length:Nat)),(9,zI i)],[]⟩) (fun i=>i<=l.length/\∀j,j<i->nth l j≠x) (fun i=>l.length-i) 0 (by exact⟨Xae _,fun j hj=>absurd hj (Xaq _)⟩) ?_ ?_
 ·exact zll
 ·rintro i ⟨hi,a⟩
  repeat'(first|(refine zhm fun hb=>?_;try exact zab)|refine zUtp ?_|refine zg2 ?_ ?_|intro _)
  ·rw[Qbg.2 ⟨i,by omega,hb⟩]
   exact zrr
  ·refine⟨i+1,⟨by omega,fun j hj=>?_⟩,by omega,?_⟩
   ·by_cases e:j=i
    ·subst e;exact hb
    ·exact a j (by omega)
   exact zll
  ·rw[Qom (fun j hj=>a j (by omega))]
   exact zrr
def Yc(ps:List Int):Prop:=∀j,1<=j->j<ps.length->0<=nth ps j/\nth ps j<j
def Wx(ps:List Int)(s:Int):Bool:=decide (∀j,j<ps.length->1<=j->nth ps j≠s)
theorem Zx{ps:List Int}{s:Int}:Wx ps s=true↔∀j,j<ps.length->1<=j->nth ps j≠s:=by
 unfold Wx
 rw[decide_eq_true_eq]
theorem Qr5{ps:List Int}{s:Int}{j:Nat}(h1:j<ps.length)(h2:1<=j)(h:nth ps j=s):Wx ps s=false:=by
 cases e:Wx ps s with
 | false=>rfl
 | true=>exact absurd h (Zx.1 e j h1 h2)
theorem Qg6{ps:List Int}{s:Int}(h:ps.length<=1000000000):zAc 222 [zL (intE ps),zI s] [.d (.b (Wx ps s))] []:=by
 refine zAC func222 fun w0 Z=>?_
 repeat'(first|(refine zhm fun hb=>?_;try exact zab)|refine zUtp ?_|refine zg2 ?_ ?_|intro _)
 refine Qa (fun(i:Nat)=>⟨18,[(0,zL (intE ps)),(1,zI s),(5,zI i)],[]⟩) (fun i=>1<=i/\∀j,j<i->1<=j->j<ps.length->nth ps j≠s) (fun i=>ps.length-i) 1 (by exact⟨Xaj _,fun j h1 h2=>by omega⟩) ?_ ?_
 ·exact zll
 ·rintro i ⟨g,c⟩
  repeat'(first|(refine zhm fun hb=>?_;try exact zab)|refine zUtp ?_|refine zg2 ?_ ?_|intro _)
  ·rw[Qr5 (by omega) g hb]
   exact zrr
  ·refine⟨i+1,⟨by omega,fun j hj h1 h2=>?_⟩,by omega,?_⟩
   ·by_cases e:j=i
    ·subst e;exact hb
    ·exact c j (by omega) h1 h2
   exact zll
  ·rw[Zx.2 (fun j h1 h2=>c j (by omega) h2 h1)]
   exact zrr
def dptF(ps:List Int):Nat->Nat->Nat
 | 0,_=>0
 | f+1,s=>if s=0 then 0 else dptF ps f (nth ps s).toNat+1
def dpt(ps:List Int)(s:Nat):Nat:=dptF ps s s
theorem QvF{ps:List Int}(hv:Yc ps):∀(s f:Nat),s<=f->s<ps.length->dptF ps f s=dpt ps s:=by
 intro s
 induction s using Nat.strongRecOn with
 | _ s ih=>
  intro f hf a
  cases s with
  | zero=>
   cases f with
   | zero=>rfl
   | succ f=>rfl
  | succ s=>
   cases f with
   | zero=>omega
   | succ f=>
    have hp:=hv (s+1) (by omega) a
    unfold dpt
    rw[dptF,dptF,if_neg (by omega),if_neg (by omega),ih _ (by omega) f (by omega) (by omega),ih _ (by omega) s (by omega) (by omega)]
theorem Qx6(ps:List Int):dpt ps 0=0:=rfl
theorem QtG{ps:List Int}(hv:Yc ps){s:Nat}(h0:0<s)(hs:s<ps.length):dpt ps s=dpt ps (nth ps s).toNat+1:=by
 have hp:=hv s (by omega) hs
 obtain⟨k,rfl⟩:∃k,s=k+1:=⟨s-1,by omega⟩
 conv=>lhs;unfold dpt
 rw[dptF,if_neg (by omega),QvF hv _ _ (by omega) (by omega)]
theorem QmC{ps:List Int}(hv:Yc ps):∀(s:Nat),s<ps.length->dpt ps s<=s:=by
 intro s
 induction s using Nat.strongRecOn with
 | _ s ih=>
  intro a
  by_cases b:s=0
  ·subst b;exact Xaj _
  ·have hp:=hv s (by omega) a
   rw[QtG hv (by omega) a]
   have:=ih (nth ps s).toNat (by omega) (by omega)
   omega
theorem QgT{ps:List Int}(h:ps.length<=1000000000)(hv:Yc ps){s:Nat}(hs:s<ps.length):zAc 133 [zL (intE ps),zI s] [zI (dpt ps s:Nat)] []:=by
 refine zAC func133 fun w0 Z=>?_
 have hd:=QmC hv s hs
 repeat'(first|(refine zhm fun hb=>?_;try exact zab)|refine zUto ?_|refine zg2 ?_ ?_|intro _)
 refine Qa (fun(x:Nat×Nat)=>⟨15,[(0,zL (intE ps)),(1,zI x.1),(5,zI x.2)],[]⟩) (fun x=>x.1<ps.length/\dpt ps s=dpt ps x.1+x.2) (fun x=>x.1) (s,0) (by exact⟨hs,rfl⟩) ?_ ?_
 ·exact zll
 ·rintro x ⟨b,a⟩
  repeat'(first|(refine zhm fun hb=>?_;try exact zab)|refine zUto ?_|refine zg2 ?_ ?_|intro _)
  ·have hp:=hv x.1 (by omega) b
   refine⟨((nth ps x.1).toNat,x.2+1),⟨by dsimp only;omega,by dsimp only;rw[QtG hv (by omega) b]at a;omega⟩,by dsimp only;omega,?_⟩
   exact zll
  ·have c:x.1=0:=by omega
   rw[c,Qx6]at a
   rw[show dpt ps s=x.2 by omega]
   exact zrr
end
section

def Zh(ps:List Int)(s:Nat):List Nat:=(List.range ps.length).filter fun i=>decide (1<=i)&&decide (nth ps i=(s:Int))
theorem Vn{ps:List Int}{s k:Nat}:k∈Zh ps s↔k<ps.length/\1<=k/\nth ps k=(s:Int):=by
 simp[Zh]
theorem Qcp{ps:List Int}(hv:Yc ps){s k:Nat}(h:k∈Zh ps s):s<k:=by
 obtain⟨a,b,h3⟩:=Vn.1 h
 have:=hv k b a
 omega
theorem Qhe{ps:List Int}{s:Nat}:Zh ps s=[]↔Wx ps (s:Int)=true:=by
 rw[Zx,List.eq_nil_iff_forall_not_mem]
 constructor
 ·intro h j b c d
  exact h j (Vn.2 ⟨b,c,d⟩)
 ·intro h k e
  obtain⟨b,c,d⟩:=Vn.1 e
  exact h k b c d
def lvGo(f:Nat->Int):List Nat->Option Int->Int
 | [],a=>a.getD (-1)+1
 | k::ks,a=>if f k<0\/(a.isSome=true/\f k≠a.getD (-1))then -1 else lvGo f ks (some (f k))
theorem Qb7{f g:Nat->Int}:∀{ks:List Nat} {a:Option Int},(∀k∈ks,f k=g k)->lvGo f ks a=lvGo g ks a
 | [],_,_=>rfl
 | k::ks,a,h=>by
  simp only[lvGo,h k Xaa]
  rw[Qb7 fun x hx=>h x (Xad _ hx)]
theorem Qeh{f:Nat->Int}{m:Int}(hm:0<=m):∀{ks:List Nat},(∀k∈ks,f k=m)->lvGo f ks (some m)=m+1
 | [],_=>rfl
 | k::ks,h=>by
  have hk:=h k Xaa
  simp only[lvGo,hk]
  rw[if_neg (by simp;omega)]
  exact Qeh hm fun x hx=>h x (Xad _ hx)
theorem Qf7{f:Nat->Int}{m:Int}(hm:0<=m):∀{ks:List Nat},0<=lvGo f ks (some m)->∀k∈ks,f k=m
 | [],_,k,hk=>by cases hk
 | x::ks,h,k,hk=>by
  simp only[lvGo]at h
  by_cases hx:f x=m
  ·rw[if_neg (by simp;omega),hx]at h
   rcases Xai.1 hk with rfl|hk
   ·exact hx
   ·exact Qf7 hm h k hk
  ·rw[if_pos (by simp;omega)]at h
   omega
theorem Qp5{f:Nat->Int}{n:Int}(hn:0<=n){ks:List Nat}(h0:ks≠[])(h:∀k∈ks,f k=n):lvGo f ks none=n+1:=by
 cases ks with
 | nil=>exact absurd rfl h0
 | cons k ks=>
  have a:=h k Xaa
  simp only[lvGo,a]
  rw[if_neg (by simp;omega)]
  exact Qeh hn fun x hx=>h x (Xad _ hx)
theorem Qf6{f:Nat->Int}{ks:List Nat}(h:0<=lvGo f ks none)(k:Nat)(hk:k∈ks):0<=f k/\f k+1=lvGo f ks none:=by
 cases ks with
 | nil=>cases hk
 | cons x ks=>
  simp only[lvGo]at h ⊢
  by_cases hx:f x<0
  ·rw[if_pos (by simp;omega)]at h
   omega
  ·rw[if_neg (by simp;omega)]at h ⊢
   have b:=Qf7 (by omega) h
   have c:=Qeh (f:=f) (m:=f x) (by omega) b
   rw[c]
   rcases Xai.1 hk with rfl|hk
   ·omega
   ·rw[b k hk];omega
def lvF(ps:List Int):Nat->Nat->Int
 | 0,_=>-1
 | f+1,s=>lvGo (lvF ps f) (Zh ps s) none
def lv(ps:List Int)(s:Nat):Int:=lvF ps (ps.length-s) s
theorem Qyc{ps:List Int}(hv:Yc ps):∀(n s f:Nat),ps.length-s<=n->s<ps.length->ps.length-s<=f->lvF ps f s=lv ps s:=by
 intro n
 induction n with
 | zero=>intro s f b c;omega
 | succ n ih=>
  intro s f b c h3
  obtain⟨f',rfl⟩:∃f',f=f'+1:=⟨f-1,by omega⟩
  unfold lv
  obtain⟨g,hg⟩:∃g,ps.length-s=g+1:=⟨ps.length-s-1,by omega⟩
  rw[hg]
  simp only[lvF]
  refine Qb7 fun k hk=>?_
  have h4:=Qcp hv hk
  have a:=(Vn.1 hk).1
  rw[ih k f' (by omega) a (by omega),ih k g (by omega) a (by omega)]
theorem QhC{ps:List Int}(hv:Yc ps){s:Nat}(hs:s<ps.length):lv ps s=lvGo (lv ps) (Zh ps s) none:=by
 conv=>lhs;unfold lv
 obtain⟨g,hg⟩:∃g,ps.length-s=g+1:=⟨ps.length-s-1,by omega⟩
 rw[hg]
 simp only[lvF]
 refine Qb7 fun k hk=>?_
 have h4:=Qcp hv hk
 have a:=(Vn.1 hk).1
 exact Qyc hv (ps.length-k) k g (Xaj _) a (by omega)
def QpU(ps:List Int):Prop:=∀s s',s<ps.length->s'<ps.length->Wx ps (s:Int)=true->Wx ps (s':Int)=true->dpt ps s=dpt ps s'
theorem QoR{ps:List Int}(hv:Yc ps)(h0:0<ps.length):Wx ps ((ps.length-1:Nat):Int)=true:=by
 rw[Zx]
 intro j a b h3
 have:=hv j b a
 omega
theorem Qq1{ps:List Int}(hv:Yc ps)(h:0<=lv ps 0):∀(s:Nat),s<ps.length->0<=lv ps s/\lv ps s+dpt ps s=lv ps 0:=by
 intro s
 induction s using Nat.strongRecOn with
 | _ s ih=>
  intro a
  by_cases c:s=0
  ·subst c
   exact⟨h,by rw[Qx6];simp⟩
  ·have hp:=hv s (by omega) a
   obtain⟨b,d⟩:=ih (nth ps s).toNat (by omega) (by omega)
   rw[QhC hv (by omega)]at b d
   have h3:=Qf6 b s (Vn.2 ⟨a,by omega,by omega⟩)
   have h4:=QtG hv (by omega) a
   omega
theorem QwQ{ps:List Int}(hv:Yc ps)(he:QpU ps)(h0:0<ps.length):∀(n s:Nat),ps.length-s<=n->s<ps.length->0<=lv ps s/\lv ps s+dpt ps s=dpt ps (ps.length-1):=by
 intro n
 induction n with
 | zero=>intro s g b;omega
 | succ n ih=>
  intro s g e
  by_cases a:Zh ps s=[]
  ·rw[QhC hv e,a]
   have:=he s (ps.length-1) e (by omega) (Qhe.1 a) (QoR hv h0)
   simp[lvGo,this]
  ·have b:∀k∈Zh ps s,0<=lv ps k/\lv ps k=(dpt ps (ps.length-1):Int)-(dpt ps s+1):=fun k a=>by
    obtain⟨c,h4,h⟩:=Vn.1 a
    have h6:=Qcp hv a
    obtain⟨h7,h8⟩:=ih k (by omega) c
    have f:=QtG hv (by omega) c
    rw[h]at f
    simp only[XbS]at f
    omega
   obtain⟨k,d⟩:=List.exists_mem_of_ne_nil _ a
   have c:=b k d
   rw[QhC hv e,Qp5 (n:=(dpt ps (ps.length-1):Int)-(dpt ps s+1)) (by omega) a (fun x hx=>(b x hx).2)]
   omega
theorem QwM{ps:List Int}(hv:Yc ps)(h0:0<ps.length):0<=lv ps 0↔QpU ps:=by
 constructor
 ·intro h s i f b g c
  have d:=(Qq1 hv h s f).2
  have e:=(Qq1 hv h i b).2
  rw[QhC hv f,Qhe.2 g]at d
  rw[QhC hv b,Qhe.2 c]at e
  simp only[lvGo,Xce]at d e
  omega
 ·intro h
  exact(QwQ hv h h0 ps.length 0 (by omega) h0).1
def lvl(ps:List Int)(s:Nat):Int:=(dpt ps (ps.length-1):Int)-(dpt ps s:Int)
theorem Qk6{ps:List Int}(hv:Yc ps)(he:QpU ps){s:Nat}(hs:s<ps.length):lv ps s=lvl ps s:=by
 have:=(QwQ hv he (by omega) ps.length s (by omega) hs).2
 unfold lvl
 omega
def QjU(ps:List Int)(n:Qar):Prop:=(0<=n.leaf/\n.leaf<ps.length)/\Wx ps n.leaf=true/\Qh n.cap=true
structure Q3 (t:QX):Prop where
 len:1<=t.parents.length/\t.parents.length<=24
 zero:nth t.parents 0=0
 nlen:t.nodes.length<=24
 valid:Yc t.parents
 even:QpU t.parents
 nodes:∀j,j<t.nodes.length->QjU t.parents (nth t.nodes j)
open Classical in
noncomputable def JB (t:QX):Bool:=decide (Q3 t)
open Classical in
theorem J8{t:QX}:JB t=true↔Q3 t:=by unfold JB;exact decide_eq_true_iff
open Classical in
theorem Vx{t:QX}:JB t=false↔¬Q3 t:=by unfold JB;exact decide_eq_false_iff_not
end
section

def risI(l:List Int):Prop:=l.Pairwise (·<·)
theorem QbQ:∀{l l':List Int},risI l->risI l'->(∀x,x∈l↔x∈l')->l=l'
 | [],[],_,_,_=>rfl
 | [],x::l',_,_,h=>absurd ((h x).2 Xaa) (by simp)
 | x::l,[],_,_,h=>absurd ((h x).1 Xaa) (by simp)
 | x::l,y::l',h1,h2,h=>by
  unfold risI at h1 h2
  rw[Xau]at h1 h2
  have hxy:x=y:=by
   rcases Xai.1 ((h x).1 Xaa)with e|e
   ·exact e
   ·rcases Xai.1 ((h y).2 Xaa)with e'|e'
    ·exact e'.symm
    ·have:=h2.1 x e
     have:=h1.1 y e'
     omega
  subst hxy
  rw[QbQ h1.2 h2.2 fun z=>?_]
  constructor
  ·intro hz
   rcases Xai.1 ((h z).1 (Xad _ hz))with e|e
   ·have:=h1.1 z hz;omega
   ·exact e
  ·intro hz
   rcases Xai.1 ((h z).2 (Xad _ hz))with e|e
   ·have:=h2.1 z hz;omega
   ·exact e
def insI(t:Int):Bool->List Int->List Int
 | d,[]=>if d=true then[] else[t]
 | d,x::l=>(if d=false/\t<=x then[t] else[])++((if x≠t then[x] else[])++insI t (d||decide (t<=x)) l)
theorem Qjl{t:Int}:∀{l:List Int},(∀x∈l,t<x)->insI t true l=l
 | [],_=>rfl
 | x::l,h=>by
  have:=h x Xaa
  simp only[insI,Bool.true_or]
  rw[Qjl fun y hy=>h y (Xad _ hy),if_neg (by simp),if_pos (by omega)]
  rfl
theorem QbN{t:Int}:∀{l:List Int},risI l->risI (insI t false l)/\∀x,x∈insI t false l↔x=t\/x∈l
 | [],_=>by simp[insI,risI]
 | y::l,h=>by
  unfold risI at h ⊢
  rw[Xau]at h
  simp only[insI,Bool.false_or]
  by_cases h1:t<=y
  ·rw[if_pos ⟨trivial,h1⟩,decide_eq_true h1,Qjl fun z hz=>by have:=h.1 z hz;omega]
   by_cases h2:y=t
   ·rw[if_neg (by simp[h2])]
    subst h2
    refine⟨?_,fun x=>by simp⟩
    simp only[Xba,XbB,Xau]
    exact h
   ·rw[if_pos h2]
    refine⟨?_,fun x=>by simp⟩
    simp only[XbB,Xau]
    refine⟨fun z hz=>?_,h⟩
    rcases Xai.1 hz with rfl|hz
    ·omega
    ·have:=h.1 z hz;omega
  ·rw[if_neg (by simp;omega),decide_eq_false h1,if_pos (by omega)]
   obtain⟨h3,h4⟩:=QbN (t:=t) h.2
   refine⟨?_,fun x=>by simp[h4];constructor <;> (rintro (h|h|h) <;> simp[h])⟩
   simp only[Xba,XbB,Xau]
   refine⟨fun z hz=>?_,h3⟩
   rcases(h4 z).1 hz with rfl|hz
   ·omega
   ·exact h.1 z hz
def Qcx:Int->List Int->List Int
 | _,[]=>[]
 | x,y::l=>if y=x then Qcx x l else y::Qcx y l
def cmpL:List Int->List Int
 | []=>[]
 | x::l=>x::Qcx x l
theorem QdT:∀{l:List Int} {x:Int},(x::l).Pairwise (·<=·)->(∀y∈Qcx x l,x<y)/\risI (Qcx x l)/\∀y,y∈Qcx x l\/y=x↔y∈x::l
 | [],x,_=>by simp[Qcx,risI]
 | z::l,x,h=>by
  rw[Xau]at h
  have h1:=h.1 z Xaa
  simp only[Qcx]
  by_cases hz:z=x
  ·subst hz
   rw[if_pos rfl]
   obtain⟨a1,a2,a3⟩:=QdT h.2
   refine⟨a1,a2,fun y=>?_⟩
   rw[a3]
   simp
  ·rw[if_neg hz]
   obtain⟨a1,a2,a3⟩:=QdT h.2
   refine⟨fun y hy=>?_,?_,fun y=>?_⟩
   ·rcases Xai.1 hy with rfl|hy
    ·omega
    ·have:=a1 y hy;omega
   ·unfold risI
    rw[Xau]
    exact⟨a1,a2⟩
   ·have:=a3 y
    simp only[Xai]at this ⊢
    constructor
    ·rintro ((e|e)|e)
     ·exact .inr (.inl e)
     ·exact .inr (this.1 (.inl e))
     ·exact .inl e
    ·rintro (e|e)
     ·exact .inr e
     ·rcases this.2 e with e|e
      ·exact .inl (.inr e)
      ·exact .inl (.inl e)
theorem Ql7{l:List Int}(h:l.Pairwise (·<=·)):risI (cmpL l)/\∀y,y∈cmpL l↔y∈l:=by
 cases l with
 | nil=>simp[cmpL,risI]
 | cons x l=>
  obtain⟨a,b,c⟩:=QdT h
  refine⟨?_,fun y=>?_⟩
  ·unfold risI cmpL
   rw[Xau]
   exact⟨a,b⟩
  ·rw[<-c y,cmpL,Xai]
   exact Or.comm
def srtI(l:List Int):List Int:=l.mergeSort fun x y=>decide (x<=y)
theorem Ql8{l:List Int}{x:Int}:x∈srtI l↔x∈l:=List.mem_mergeSort
theorem Qkn(l:List Int):(srtI l).Pairwise (·<=·):=by
 have:=Xck (le:=fun(x y:Int)=>decide (x<=y)) (fun a b c h1 h2=>by simp at *;omega) (fun a b=>by simp;omega) l
 exact this.imp fun h=>by simpa using h
theorem Yj(l:List Int):(srtI l).length=l.length:=Xcp l

structure Pt where
 at':Int
 free:V3
instance:Inhabited V3:=⟨⟨0,0,0⟩⟩
instance:Inhabited Pt:=⟨⟨0,⟨0,0,0⟩⟩⟩
deriving instance DecidableEq for V3
def ptE(l:List Pt):List (List D):=l.map fun p=>[.n .i64 p.at',.n .i64 p.free.a,.n .i64 p.free.b,.n .i64 p.free.c]
@[reducible] def Qah (l:List Pt):AV:=.agg [zL (ptE l)]
theorem JN(l:List Pt):(ptE l).length=l.length:=by simp[ptE]
def zV:V3:=⟨0,0,0⟩
structure Jx (l:List Pt):Prop where
 len:1<=l.length/\l.length<=200
 zero:(nth l 0).at'=0
 pts:∀j,j<l.length->(0<=(nth l j).at'/\(nth l j).at'<=1000000000)/\Qh (nth l j).free=true
 steps:∀j,j+1<l.length->(nth l j).at'<(nth l (j+1)).at'/\(nth l j).free≠(nth l (j+1)).free
open Classical in
noncomputable def JW (l:List Pt):Bool:=decide (Jx l)
open Classical in
theorem JE{l:List Pt}:JW l=true↔Jx l:=by unfold JW;exact decide_eq_true_iff
open Classical in
theorem Qbc{l:List Pt}:JW l=false↔¬Jx l:=by unfold JW;exact decide_eq_false_iff_not
def atsI(l:List Pt):List Int:=l.map Pt.at'
def QN(l:List Pt)(t:Int):V3:=l.foldl (fun v x=>if x.at'<=t then x.free else v) zV
def Vm(from' to:Int):Bool:=inB from' 0 1000000000&&inB to 0 1000000000&&decide (from'<to)
theorem Jd{α:Type}[Inhabited α]{l:List α}{j:Nat}(h:j<l.length):nth l j=l[j]:=by simp[nth,List.getD,h]
theorem QE{α:Type}[Inhabited α]{l:List α}{j:Nat}(h:j<l.length):nth l j∈l:=by rw[Jd h];exact Xbm h
theorem Jt{α:Type}[Inhabited α]{l:List α}{x:α}(h:x∈l):∃j,j<l.length/\nth l j=x:=by
 obtain⟨j,a,e⟩:=Xbh h
 exact⟨j,a,by rw[Jd a];exact e⟩
theorem Qot{l:List Pt}(h:∀j,j+1<l.length->(nth l j).at'<(nth l (j+1)).at'):risI (atsI l):=by
 unfold risI atsI
 rw[Xbn,Xa9]
 intro i j c f d
 have a:∀n,i+1+n<l.length->(nth l i).at'<(nth l (i+1+n)).at':=by
  intro n
  induction n with
  | zero=>intro g;exact h i (by omega)
  | succ n ih=>
   intro g
   have h1:=ih (by omega)
   have b:=h (i+1+n) (by omega)
   have e:i+1+n+1=i+1+(n+1):=by omega
   rw[e]at b
   omega
 have:=a (j-(i+1)) (by omega)
 rw[show i+1+(j-(i+1))=j by omega,Jd c,Jd f]at this
 exact this
theorem Jx.ris{l:List Pt}(h:Jx l):risI (atsI l):=Qot fun j hj=>(h.steps j hj).1
def QP(l:List Pt)(from' to:Int):List Int:=insI to false (insI from' false (atsI l))
def Jy(l:List Pt)(from' to:Int):List Int:=cmpL (srtI ([from',to]++atsI l))
theorem Qsi{l:List Pt}(h:Jx l)(from' to:Int):Jy l from' to=QP l from' to:=by
 obtain⟨a,b⟩:=QbN (t:=from') h.ris
 obtain⟨c,d⟩:=QbN (t:=to) a
 obtain⟨f,g⟩:=Ql7 (Qkn ([from',to]++atsI l))
 refine QbQ f c fun x=>?_
 rw[Jy,g,Ql8,QP,d,b]
 simp only[Xag,Xai,Xcf,or_false]
 constructor
 ·rintro ((e|e)|e)
  ·exact .inr (.inl e)
  ·exact .inl e
  ·exact .inr (.inr e)
 ·rintro (e|e|e)
  ·exact .inl (.inr e)
  ·exact .inl (.inl e)
  ·exact .inr e
theorem XK{l:List Pt}(h:Jx l)(from' to:Int):risI (QP l from' to)/\∀x,x∈QP l from' to↔x=to\/x=from'\/x∈atsI l:=by
 obtain⟨b,c⟩:=QbN (t:=from') h.ris
 obtain⟨d,e⟩:=QbN (t:=to) b
 exact⟨d,fun x=>by rw[QP,e,c]⟩
def chgV(l:List Pt)(from' to:Int)(by':V3->Option V3)(t:Int):Option V3:=if from'<=t/\t<to then by' (QN l t)else some (QN l t)
def VT(out:List Pt)(t:Int)(v:V3):List Pt:=if out=[]\/(nth out (out.length-1)).free≠v then out++[⟨t,v⟩]else out
def W6(l:List Pt)(from' to:Int)(by':V3->Option V3):List Int->List Pt->Option (List Pt)
 | [],out=>some out
 | t::ts,out=>match chgV l from' to by' t with
  | none=>none
  | some v=>W6 l from' to by' ts (VT out t v)
def chgP(l:List Pt)(from' to:Int)(by':V3->Option V3):Option (List Pt):=(W6 l from' to by' (QP l from' to) []).bind fun out=>if out.length<=200 then some out else none
end
section
attribute [local irreducible] AWp QM OpOk ACalls ChA QsOk MCalls EnC PY

@[reducible] def WH (t:QX):List AV:=[zL (intE t.parents),zL (Qr t.nodes)]
theorem Qlz{ps:List Int}(h:ps.length<=1000000000)(h0:0<ps.length)(hv:Yc ps):zAc 132 [zL (intE ps)] [zI (dpt ps (ps.length-1):Nat)] []:=by
 refine zAC func132 fun w0 Z=>?_
 repeat'(first|(refine zhm fun hb=>?_;try exact zab)|refine zUtp ?_|refine zg2 ?_ ?_|refine kc (QgT h hv (s:=ps.length-1) (by omega)) rfl rfl ?_|intro _)
 exact zrr
theorem QgX{t:QX}(ht:Q3 t){s:Nat}(hs:s<t.parents.length):zAc 65 [YW t,zI s] [zI (lvl t.parents s)] []:=by
 refine zAC func65 fun w0 Z=>?_
 have hl:=ht.len
 have h1:=QmC ht.valid s hs
 have h2:=QmC ht.valid (t.parents.length-1) (by omega)
 repeat'(first|(refine zhm fun hb=>?_;try exact zab)|refine QcZ ?_|(apply zch;exact zcg)|exact zhk|refine zg3 ?_ ?_|refine kc (Qlz (ps:=t.parents) (by omega) (by omega) ht.valid) rfl rfl ?_|refine kc (QgT (ps:=t.parents) (by omega) ht.valid hs) rfl rfl ?_|refine kq (Qlz (ps:=t.parents) (by omega) (by omega) ht.valid) rfl rfl ?_|refine kq (QgT (ps:=t.parents) (by omega) ht.valid hs) rfl rfl ?_|intro _)
 exact zrr
theorem Qdx{t:QX}(hp:t.parents.length<=1000000000)(hn:t.nodes.length<=1000000000):zAc 131 [YW t] [.d (.b (JB t))] []:=by
 refine zAC func131 fun w0 Z=>?_
 repeat'(first|(refine zhm fun hb=>?_;try exact zab)|refine zUtp ?_|refine zg2 ?_ ?_|refine zqj Q5 ?_|intro _)
 any_goals
  rw[show JB t=false from Vx.2 fun h=>by have a:=h.len;have c:=h.zero;have f:=h.nlen;omega]
  refine zr [] ?_ ?_
  repeat'(first|exact ze3|refine ze2 ?_ ?_|refine ze4 ?_|exact ze5|fail)
  all_goals exact zp rfl
 refine Qa (fun(i:Nat)=>⟨97,[(1,.ptr 1 0),(3,zI i)],[(1,.box 26 (WH t))]⟩) (fun i=>1<=i/\∀j,1<=j->j<i->j<t.parents.length->0<=nth t.parents j/\nth t.parents j<j) (fun i=>t.parents.length-i) 1 (by exact⟨Xaj _,fun j a c=>by omega⟩) ?_ ?_
 ·exact zll
 ·rintro i ⟨q,o⟩
  repeat'(first|(refine zhm fun hb=>?_;try exact zab)|refine zUtp ?_|refine zg2 ?_ ?_|refine zqj Q5 ?_|intro _)
  any_goals
   rw[show JB t=false from Vx.2 fun h=>by have a:=h.valid i (by omega) (by omega);omega]
   refine zr [] ?_ ?_
   repeat'(first|exact ze3|refine ze2 ?_ ?_|refine ze4 ?_|exact ze5|fail)
   all_goals exact zp rfl
  ·refine⟨i+1,⟨by omega,fun j a c f=>?_⟩,by omega,?_⟩
   ·by_cases e:j=i
    ·subst e;omega
    ·exact o j a (by omega) f
   exact zll
  ·have g:Yc t.parents:=fun j a c=>o j a (by omega) c
   refine Qa (fun(x:Nat×Int)=>⟨97,[(1,.ptr 1 0),(4,zI x.2),(45,zI (t.parents.length:Nat)),(46,zI x.1)],[(1,.box 26 (WH t))]⟩) (fun x=>x.1<=t.parents.length/\(x.2 = -1\/∃r,r<t.parents.length/\Wx t.parents (r:Int)=true/\(dpt t.parents r:Int)=x.2)/\∀s,s<x.1->Wx t.parents (s:Int)=true->(dpt t.parents s:Int)=x.2) (fun x=>t.parents.length-x.1) (0,-1) (by exact⟨Xae _,.inl rfl,fun s h=>absurd h (Xaq _)⟩) ?_ ?_
   ·exact zll
   ·rintro ⟨s,d⟩ ⟨a,c,f⟩
    dsimp only at a c f ⊢
    by_cases l:s<t.parents.length
    ·have p:=QmC g s l
     have m:Wx t.parents (s:Int)=true->((dpt t.parents s:Int)=d\/d<0)->∀r,r<s+1->Wx t.parents (r:Int)=true->(dpt t.parents r:Int)=(dpt t.parents s:Int):=fun hl hd r hr hlr=>by
      by_cases e:r=s
      ·rw[e]
      ·have:=f r (by omega) hlr
       omega
     repeat'(first|(refine zhm fun hb=>?_;try exact zab)|refine zUtp ?_|refine zg2 ?_ ?_|refine kc (Qg6 (ps:=t.parents) (s:=s) hp) rfl rfl ?_|refine kc (QgT hp g l) rfl rfl ?_|intro _)
     ·refine⟨(s+1,d),⟨by dsimp only;omega,c,fun r hr hl=>?_⟩,by dsimp only;omega,?_⟩
      ·by_cases e:r=s
       ·subst e;rename_i hb;rw[hl]at hb;cases hb
       ·exact f r (by dsimp only at hr;omega) hl
      exact zll
     ·rw[show JB t=false from Vx.2 fun h=>?_]
      ·exact zrr
      ·rcases c with c|⟨r,r1,r2,r3⟩
       ·omega
       ·have:=h.even r s r1 l r2 (by assumption)
        omega
     ·refine⟨(s+1,(dpt t.parents s:Int)),⟨by dsimp only;omega,.inr ⟨s,l,by assumption,rfl⟩,m (by assumption) (.inl (by omega))⟩,by dsimp only;omega,?_⟩
      exact zll
     ·refine⟨(s+1,(dpt t.parents s:Int)),⟨by dsimp only;omega,.inr ⟨s,l,by assumption,rfl⟩,m (by assumption) (.inr (by omega))⟩,by dsimp only;omega,?_⟩
      exact zll
    ·have n:QpU t.parents:=fun r r' hr hr' hl hl'=>by
      have e1:=f r (by omega) hl
      have e2:=f r' (by omega) hl'
      omega
     repeat'(first|(refine zhm fun hb=>?_;try exact zab)|refine zUtp ?_|refine zg2 ?_ ?_|refine kc (Qg6 (ps:=t.parents) (s:=s) hp) rfl rfl ?_|intro _)
     refine Qa (fun(i:Nat)=>⟨97,[(1,.ptr 1 0),(68,zL (Qr t.nodes)),(69,zI (t.nodes.length:Nat)),(70,zI i)],[(1,.box 26 (WH t))]⟩) (fun i=>i<=t.nodes.length/\∀j,j<i->QjU t.parents (nth t.nodes j)) (fun i=>t.nodes.length-i) 0 (by exact⟨Xae _,fun s h=>absurd h (Xaq _)⟩) ?_ ?_
     ·exact zll
     ·rintro i ⟨q,k⟩
      repeat'(first|(refine zhm fun hb=>?_;try exact zab)|refine zUtp ?_|refine zg2 ?_ ?_|refine zqj Q5 ?_|refine kc (Qg6 (ps:=t.parents) (s:=(nth t.nodes i).leaf) hp) rfl rfl ?_|refine kc (Yu (v:=(nth t.nodes i).cap)) rfl rfl ?_|intro _)
      any_goals
       rw[show JB t=false from Vx.2 fun h=>by have a:=h.nodes i (by omega);have c:=a.1;first|omega|(have f:=a.2.1;simp_all;done)|(have f:=a.2.2;simp_all;done)]
       refine zr [] ?_ ?_
       repeat'(first|exact ze3|refine ze2 ?_ ?_|refine ze4 ?_|exact ze5|fail)
       all_goals exact zp rfl
      ·refine⟨i+1,⟨by omega,fun j hj=>?_⟩,by omega,?_⟩
       ·by_cases e:j=i
        ·subst e;exact⟨by omega,by assumption,by assumption⟩
        ·exact k j (by omega)
       exact zll
      ·rw[show JB t=true from J8.2 ⟨by omega,by omega,by omega,g,n,fun j hj=>k j (by omega)⟩]
       exact zrr
end
end Go.Proofs.YtkdniahincpmaaaGreat
