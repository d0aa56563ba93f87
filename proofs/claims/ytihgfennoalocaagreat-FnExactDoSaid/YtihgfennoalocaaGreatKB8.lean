/-
  Vectors, jobs: VecOk, JobOk, both.
-/
import Derived.Test.YtihgfennoalocaaGreatKB7
import Derived.Test.YtihgfennoalocaaGreatKTI
import Derived.Test.YtihgfennoalocaaGreatKB4
set_option maxRecDepth 100000
set_option maxHeartbeats 16000000
namespace Go.Proofs.YtihgfennoalocaaGreat
open Go Go.RowKit Tryz
section
attribute [local irreducible] AWp QJ OpOk ACalls ChA QsOk MCalls EnC PY
abbrev zI(x:Int):AV:=.d (.n .i64 x)
abbrev zL(l:List (List D)):AV:=.d (.sl l)
abbrev zAc:=ACalls Tryz.prog
theorem zAC {f : FuncId} {fn : Func} {c : Code} {args rs : List AV} {rob : List (Nat × AO)} (hf : Tryz.prog.funcs[f]? = some fn) (h : ∀ (w0 : World) (Z : ZV fre0), AWp ⟨Tryz.prog, w0, fre0, Z, NoB, tt⟩ c (retQ ⟨Tryz.prog, w0, fre0, Z, NoB, tt⟩ fn rs rob) (Qfd fn.ntmps args)) (h1 : (fn.name == "runtime.NumGoroutine") = false := by exact rfl) (hb : fn.body = some c := by exact rfl) (hn : Nat.ble args.length fn.ntmps = true := by exact rfl) : ACalls Tryz.prog f args rs rob := Qmu tt hf h1 hb hn h
theorem zMC {ι : Type} {f : FuncId} {fn : Func} {c : Code} {args : List AV} {ok : ι → Prop} {rs : ι → List AV} {rob : ι → List (Nat × AO)} (hf : Tryz.prog.funcs[f]? = some fn) (h : ∀ (w0 : World) (Z : ZV fre0) (O : Nat → Prop), AWp ⟨Tryz.prog, w0, fre0, Z, O, tt⟩ c (retM ⟨Tryz.prog, w0, fre0, Z, O, tt⟩ fn ok rs (fun _ => []) rob) ⟨fn.ntmps, Qej 0 args, []⟩) (h1 : (fn.name == "runtime.NumGoroutine") = false := by exact rfl) (hb : fn.body = some c := by exact rfl) (hn : Nat.ble args.length fn.ntmps = true := by exact rfl) : MCalls Tryz.prog f args [] ok rs (fun _ => []) rob := Ji tt hf h1 hb hn trivial (fun _ _ => ⟨trivial, trivial⟩) h

def inB(x lo hi:Int):Bool:=decide (lo<=x)&&decide (x<=hi)
theorem Yr{x lo hi:Int}:(inB x lo hi=true)=(lo<=x/\x<=hi):=by simp[inB]
theorem Qlk{x lo hi:Int}:(inB x lo hi=false)=(x<lo\/hi<x):=by
 simp only[inB,Bool.and_eq_false_iff,decide_eq_false_iff_not,Int.not_le]
theorem Qu9{x lo hi:Int}:((!inB x lo hi)=true)=(x<lo\/hi<x):=by rw[Xa6,Qlk]
theorem QtY{x lo hi:Int}:((!inB x lo hi)=false)=(lo<=x/\x<=hi):=by rw[Bool.not_eq_false',Yr]
instance (x lo hi:Int):HbT (inB x lo hi=true) (lo<=x/\x<=hi):=⟨fun h=>Yr▸h⟩
instance (x lo hi:Int):HbT (inB x lo hi=false) (x<lo\/hi<x):=⟨fun h=>Qlk▸h⟩
instance (x lo hi:Int):HbT ((!inB x lo hi)=true) (x<lo\/hi<x):=⟨fun h=>Qu9▸h⟩
instance (x lo hi:Int):HbT ((!inB x lo hi)=false) (lo<=x/\x<=hi):=⟨fun h=>QtY▸h⟩
structure V3 where
 a:Int
 b:Int
 c:Int
structure Job where
 id:Int
 prio:Int
 nodes:Int
 need:V3
 lic:V3
 wall:Int
 level:Int
@[reducible] def vecA (v:V3):AV:=.agg [zI v.a,zI v.b,zI v.c]
@[reducible] def jobA (j:Job):AV:=.agg [zI j.id,zI j.prio,zI j.nodes,zI j.need.a,zI j.need.b,zI j.need.c,zI j.lic.a,zI j.lic.b,zI j.lic.c,zI j.wall,zI j.level]
def Qh(v:V3):Bool:=inB v.a 0 1000000&&inB v.b 0 1000000&&inB v.c 0 1000000
def Qu(j:Job):Bool:=inB j.id 1 999&&inB j.prio 0 999&&inB j.nodes 1 24&&Qh j.need&&Qh j.lic&&inB j.wall 1 1000000&&inB j.level 0 24
theorem QX{x lo hi:Int}:zAc 127 [zI x,zI lo,zI hi] [.d (.b (inB x lo hi))] []:=by
 refine zAC func127 fun w0 Z=>?_
 repeat'(first|(refine zhm fun hb=>?_;try exact zab)|refine zUto ?_|refine zg2 ?_ ?_|intro _|fail)
 all_goals
  refine zr [] ?_ ?_
  repeat'(first|exact ze3|refine ze2 ?_ ?_|refine ze4 ?_|exact ze5|fail)
  refine zp ?_
  simp[inB, *]
theorem Wz{x:Int}:zAc 196 [zI x] [.d (.b (inB x 0 1000000000))] []:=by
 refine zAC func196 fun w0 Z=>?_
 repeat'(first|(refine zhm fun hb=>?_;try exact zab)|refine zUto ?_|refine zg2 ?_ ?_|refine zqj QX ?_|intro _|fail)
 all_goals
  refine zr [] ?_ ?_
  repeat'(first|exact ze3|refine ze2 ?_ ?_|refine ze4 ?_|exact ze5|fail)
theorem Yh{v:V3}:zAc 221 [vecA v] [.d (.b (Qh v))] []:=by
 refine zAC func221 fun w0 Z=>?_
 repeat'(first|(refine zhm fun hb=>?_;try exact zab)|refine zUto ?_|refine zg2 ?_ ?_|refine zqj QX ?_|intro _|fail)
 all_goals
  refine zr [] ?_ ?_
  repeat'(first|exact ze3|refine ze2 ?_ ?_|refine ze4 ?_|exact ze5|fail)
  refine zp ?_
  first
   | done
   | (rw[Bool.eq_iff_iff];simp[Qh,inB]at *;omega)
   | (rw[Bool.eq_iff_iff];simp[Qh,inB]at *;done)
   | (rw[Bool.eq_iff_iff];simp[Qh,inB]at *;simp[*];done)
   | (rw[Bool.eq_iff_iff];simp[Qh,inB]at *;simp[*];omega)
   | (rw[Bool.eq_iff_iff];simp[Qh,inB]at *;simp[*];intros;omega)
theorem ZM{j:Job}:zAc 240 [jobA j] [.d (.b (Qu j))] []:=by
 refine zAC func240 fun w0 Z=>?_
 repeat'(first|(refine zhm fun hb=>?_;try exact zab)|refine zUto ?_|refine zg2 ?_ ?_|refine zqj QX ?_|refine kc (Yh (v:=j.need)) rfl rfl ?_|refine kc (Yh (v:=j.lic)) rfl rfl ?_|intro _|fail)
 all_goals
  refine zr [] ?_ ?_
  repeat'(first|exact ze3|refine ze2 ?_ ?_|refine ze4 ?_|exact ze5|fail)
  refine zp ?_
  first
   | done
   | (rw[Bool.eq_iff_iff];simp[Qu,Qh,inB]at *;omega)
   | (rw[Bool.eq_iff_iff];simp[Qu,Qh,inB]at *;done)
   | (rw[Bool.eq_iff_iff];simp[Qu,Qh,inB]at *;simp[*];done)
   | (rw[Bool.eq_iff_iff];simp[Qu,Qh,inB]at *;simp[*];omega)
   | (rw[Bool.eq_iff_iff];simp[Qu,Qh,inB]at *;simp[*];intros;omega)
theorem Qvl{x:Int}:zAc 268 [zI x] [.d (.b (inB x 0 1000000))] []:=by
 refine zAC func268 fun w0 Z=>?_
 repeat'(first|(refine zhm fun hb=>?_;try exact zab)|refine zUto ?_|refine zg2 ?_ ?_|intro _|fail)
 all_goals
  refine zr [] ?_ ?_
  repeat'(first|exact ze3|refine ze2 ?_ ?_|refine ze4 ?_|exact ze5|fail)
  refine zp ?_
  first
   | done
   | (rw[Bool.eq_iff_iff];simp[inB]at *;omega)
   | (rw[Bool.eq_iff_iff];simp[inB]at *;done)
   | (rw[Bool.eq_iff_iff];simp[inB]at *;simp[*];done)
   | (rw[Bool.eq_iff_iff];simp[inB]at *;simp[*];omega)
   | (rw[Bool.eq_iff_iff];simp[inB]at *;simp[*];intros;omega)
theorem Y1{x:Int}:zAc 218 [zI x] [.d (.b (inB x 0 1000000000))] []:=by
 refine zAC func218 fun w0 Z=>?_
 repeat'(first|(refine zhm fun hb=>?_;try exact zab)|refine zUto ?_|refine zg2 ?_ ?_|intro _|fail)
 all_goals
  refine zr [] ?_ ?_
  repeat'(first|exact ze3|refine ze2 ?_ ?_|refine ze4 ?_|exact ze5|fail)
  refine zp ?_
  first
   | done
   | (rw[Bool.eq_iff_iff];simp[inB]at *;omega)
   | (rw[Bool.eq_iff_iff];simp[inB]at *;done)
   | (rw[Bool.eq_iff_iff];simp[inB]at *;simp[*];done)
   | (rw[Bool.eq_iff_iff];simp[inB]at *;simp[*];omega)
   | (rw[Bool.eq_iff_iff];simp[inB]at *;simp[*];intros;omega)
theorem JV{v:V3}:zAc 231 [vecA v] [.d (.b (Qh v))] []:=by
 refine zAC func231 fun w0 Z=>?_
 repeat'(first|(refine zhm fun hb=>?_;try exact zab)|refine zUto ?_|refine zg2 ?_ ?_|refine zqj Qvl ?_|intro _|fail)
 all_goals
  refine zr [] ?_ ?_
  repeat'(first|exact ze3|refine ze2 ?_ ?_|refine ze4 ?_|exact ze5|fail)
  refine zp ?_
  first
   | done
   | (rw[Bool.eq_iff_iff];simp[Qh,inB]at *;omega)
   | (rw[Bool.eq_iff_iff];simp[Qh,inB]at *;done)
   | (rw[Bool.eq_iff_iff];simp[Qh,inB]at *;simp[*];done)
   | (rw[Bool.eq_iff_iff];simp[Qh,inB]at *;simp[*];omega)
   | (rw[Bool.eq_iff_iff];simp[Qh,inB]at *;simp[*];intros;omega)
theorem QcT{j:Job}:zAc 226 [jobA j] [.d (.b (Qu j))] []:=by
 refine zAC func226 fun w0 Z=>?_
 repeat'(first|(refine zhm fun hb=>?_;try exact zab)|refine zUto ?_|refine zg2 ?_ ?_|refine kc (JV (v:=j.need)) rfl rfl ?_|refine kc (JV (v:=j.lic)) rfl rfl ?_|intro _|fail)
 all_goals
  refine zr [] ?_ ?_
  repeat'(first|exact ze3|refine ze2 ?_ ?_|refine ze4 ?_|exact ze5|fail)
  refine zp ?_
  first
   | done
   | (rw[Bool.eq_iff_iff];simp[Qu,Qh,inB]at *;omega)
   | (rw[Bool.eq_iff_iff];simp[Qu,Qh,inB]at *;done)
   | (rw[Bool.eq_iff_iff];simp[Qu,Qh,inB]at *;simp[*];done)
   | (rw[Bool.eq_iff_iff];simp[Qu,Qh,inB]at *;simp[*];omega)
   | (rw[Bool.eq_iff_iff];simp[Qu,Qh,inB]at *;simp[*];intros;omega)

structure X6 where
 leaf:Int
 cap:V3
instance:Inhabited X6:=⟨⟨0,⟨0,0,0⟩⟩⟩
structure QW where
 parents:List Int
 nodes:List X6
def Qz(l:List X6):List (List D):=l.map fun n=>[.n .i64 n.leaf,.n .i64 n.cap.a,.n .i64 n.cap.b,.n .i64 n.cap.c]
@[reducible] def Yy (t:QW):AV:=.agg [zL (intE t.parents),zL (Qz t.nodes)]
theorem Qr(l:List X6):(Qz l).length=l.length:=by simp[Qz]
def hasI(l:List Int)(x:Int):Bool:=l.any fun y=>y==x
def idxI(l:List Int)(x:Int):Int:=if hasI l x=true then((l.findIdx fun y=>y==x:Nat):Int)else -1
theorem Qgo{l:List Int}{x:Int}:hasI l x=true↔∃j,j<l.length/\nth l j=x:=by
 unfold hasI
 rw[XaX]
 constructor
 ·rintro ⟨y,hy,h⟩
  obtain⟨j,hj,e⟩:=List.mem_iff_getElem.1 hy
  exact⟨j,hj,by simp only[nth,List.getD,List.getElem?_eq_getElem hj,XaP,e];exact beq_iff_eq.1 h⟩
 ·rintro ⟨j,hj,h⟩
  refine⟨l[j],Xbf hj,?_⟩
  simp only[nth,List.getD,List.getElem?_eq_getElem hj,XaP]at h
  rw[h]
  exact beq_self_eq_true x
theorem Qoo{l:List Int}{x:Int}(h:∀j,j<l.length->nth l j≠x):hasI l x=false:=by
 cases e:hasI l x with
 | false=>rfl
 | true=>
  obtain⟨j,h1,h2⟩:=Qgo.1 e
  exact absurd h2 (h j h1)
theorem Qrc{l:List Int}{x:Int}{i:Nat}(hi:i<l.length)(h:nth l i=x)(hp:∀j,j<i->nth l j≠x):idxI l x=i:=by
 unfold idxI
 rw[if_pos (Qgo.2 ⟨i,hi,h⟩)]
 have e:∀{j:Nat} (hj:j<l.length),nth l j=l[j]:=fun hj=>by simp[nth,List.getD,hj]
 congr 1
 rw[List.findIdx_eq hi]
 refine⟨by rw[<-e hi,h];exact beq_self_eq_true x,fun j hj=>?_⟩
 have:=hp j hj
 rw[e (by omega)]at this
 rw[beq_eq_false_iff_ne]
 exact this
theorem Qsr{l:List Int}{x:Int}(h:∀j,j<l.length->nth l j≠x):idxI l x = -1:=by
 unfold idxI
 rw[if_neg (by rw[Qoo h];decide)]
theorem QqO(l:List Int)(x:Int):decide (0<=idxI l x)=hasI l x:=by
 unfold idxI
 cases h:hasI l x with
 | true=>rw[if_pos rfl];simp
 | false=>rw[if_neg (by decide)];decide
theorem Qs9{l:List Int}{x:Int}(h:l.length<=1000000000):zAc 281 [zL (intE l),zI x] [zI (idxI l x)] []:=by
 refine zAC func281 fun w0 Z=>?_
 repeat'(first|(refine zhm fun hb=>?_;try exact zab)|refine zUtp ?_|refine zg2 ?_ ?_|intro _|fail)
 refine Qa (fun(i:Nat)=>⟨19,[(0,zL (intE l)),(1,zI x),(7,zI (l.length:Nat)),(8,zI i)],[]⟩) (fun i=>i<=l.length/\∀j,j<i->nth l j≠x) (fun i=>l.length-i) 0 (by exact⟨Xab _,fun j hj=>absurd hj (Xas _)⟩) ?_ ?_
 ·exact zll
 ·rintro i ⟨hi,hp⟩
  repeat'(first|(refine zhm fun hb=>?_;try exact zab)|refine zUtp ?_|refine zg2 ?_ ?_|intro _|fail)
  ·rw[Qrc (by omega) hb.symm hp]
   exact zrr
  ·refine⟨i+1,⟨by omega,fun j hj=>?_⟩,by omega,?_⟩
   ·by_cases e:j=i
    ·subst e;exact fun e=>hb e.symm
    ·exact hp j (by omega)
   exact zll
  ·rw[Qsr (fun j hj=>hp j (by omega))]
   exact zrr
theorem WM{l:List Int}{x:Int}(h:l.length<=1000000000):zAc 248 [zL (intE l),zI x] [.d (.b (hasI l x))] []:=by
 refine zAC func248 fun w0 Z=>?_
 repeat'(first|(refine zhm fun hb=>?_;try exact zab)|refine zUto ?_|refine zg2 ?_ ?_|refine kc (Qs9 h) rfl rfl ?_|intro _|fail)
 refine zr [] ?_ ?_
 repeat'(first|exact ze3|refine ze2 ?_ ?_|refine ze4 ?_|exact ze5|fail)
 all_goals exact zp (QqO l x)
theorem Wp{l:List Int}{x:Int}(h:l.length<=1000000000):zAc 229 [zL (intE l),zI x] [.d (.b (hasI l x))] []:=by
 refine zAC func229 fun w0 Z=>?_
 repeat'(first|(refine zhm fun hb=>?_;try exact zab)|refine zUtp ?_|refine zg2 ?_ ?_|intro _|fail)
 refine Qa (fun(i:Nat)=>⟨17,[(1,zI x),(7,zL (intE l)),(8,zI (l.length:Nat)),(9,zI i)],[]⟩) (fun i=>i<=l.length/\∀j,j<i->nth l j≠x) (fun i=>l.length-i) 0 (by exact⟨Xab _,fun j hj=>absurd hj (Xas _)⟩) ?_ ?_
 ·exact zll
 ·rintro i ⟨hi,hp⟩
  repeat'(first|(refine zhm fun hb=>?_;try exact zab)|refine zUtp ?_|refine zg2 ?_ ?_|intro _|fail)
  ·rw[Qgo.2 ⟨i,by omega,hb⟩]
   exact zrr
  ·refine⟨i+1,⟨by omega,fun j hj=>?_⟩,by omega,?_⟩
   ·by_cases e:j=i
    ·subst e;exact hb
    ·exact hp j (by omega)
   exact zll
  ·rw[Qoo (fun j hj=>hp j (by omega))]
   exact zrr
def JZ(ps:List Int):Prop:=∀j,1<=j->j<ps.length->0<=nth ps j/\nth ps j<j
def Wa(ps:List Int)(s:Int):Bool:=decide (∀j,j<ps.length->1<=j->nth ps j≠s)
theorem VS{ps:List Int}{s:Int}:Wa ps s=true↔∀j,j<ps.length->1<=j->nth ps j≠s:=by
 unfold Wa
 rw[decide_eq_true_eq]
theorem QpM{ps:List Int}{s:Int}{j:Nat}(h1:j<ps.length)(h2:1<=j)(h:nth ps j=s):Wa ps s=false:=by
 cases e:Wa ps s with
 | false=>rfl
 | true=>exact absurd h (VS.1 e j h1 h2)
theorem QfW{ps:List Int}{s:Int}(h:ps.length<=1000000000):zAc 263 [zL (intE ps),zI s] [.d (.b (Wa ps s))] []:=by
 refine zAC func263 fun w0 Z=>?_
 repeat'(first|(refine zhm fun hb=>?_;try exact zab)|refine zUtp ?_|refine zg2 ?_ ?_|intro _|fail)
 refine Qa (fun(i:Nat)=>⟨18,[(0,zL (intE ps)),(1,zI s),(5,zI i)],[]⟩) (fun i=>1<=i/\∀j,j<i->1<=j->j<ps.length->nth ps j≠s) (fun i=>ps.length-i) 1 (by exact⟨Xam _,fun j h1 h2=>by omega⟩) ?_ ?_
 ·exact zll
 ·rintro i ⟨hi,hp⟩
  repeat'(first|(refine zhm fun hb=>?_;try exact zab)|refine zUtp ?_|refine zg2 ?_ ?_|intro _|fail)
  ·rw[QpM (by omega) hi hb]
   exact zrr
  ·refine⟨i+1,⟨by omega,fun j hj h1 h2=>?_⟩,by omega,?_⟩
   ·by_cases e:j=i
    ·subst e;exact hb
    ·exact hp j (by omega) h1 h2
   exact zll
  ·rw[VS.2 (fun j h1 h2=>hp j (by omega) h2 h1)]
   exact zrr
def dptF(ps:List Int):Nat->Nat->Nat
 | 0,_=>0
 | f+1,s=>if s=0 then 0 else dptF ps f (nth ps s).toNat+1
def dpt(ps:List Int)(s:Nat):Nat:=dptF ps s s
theorem Qsz{ps:List Int}(hv:JZ ps):∀(s f:Nat),s<=f->s<ps.length->dptF ps f s=dpt ps s:=by
 intro s
 induction s using Nat.strongRecOn with
 | _ s ih=>
  intro f hf hs
  cases s with
  | zero=>
   cases f with
   | zero=>rfl
   | succ f=>rfl
  | succ s=>
   cases f with
   | zero=>omega
   | succ f=>
    have hp:=hv (s+1) (by omega) hs
    unfold dpt
    rw[dptF,dptF,if_neg (by omega),if_neg (by omega),ih _ (by omega) f (by omega) (by omega),ih _ (by omega) s (by omega) (by omega)]
theorem QuM(ps:List Int):dpt ps 0=0:=rfl
theorem QpF{ps:List Int}(hv:JZ ps){s:Nat}(h0:0<s)(hs:s<ps.length):dpt ps s=dpt ps (nth ps s).toNat+1:=by
 have hp:=hv s (by omega) hs
 obtain⟨k,rfl⟩:∃k,s=k+1:=⟨s-1,by omega⟩
 conv=>lhs;unfold dpt
 rw[dptF,if_neg (by omega),Qsz hv _ _ (by omega) (by omega)]
theorem Qj9{ps:List Int}(hv:JZ ps):∀(s:Nat),s<ps.length->dpt ps s<=s:=by
 intro s
 induction s using Nat.strongRecOn with
 | _ s ih=>
  intro hs
  by_cases h0:s=0
  ·subst h0;exact Xam _
  ·have hp:=hv s (by omega) hs
   rw[QpF hv (by omega) hs]
   have:=ih (nth ps s).toNat (by omega) (by omega)
   omega
theorem QfN{ps:List Int}(h:ps.length<=1000000000)(hv:JZ ps){s:Nat}(hs:s<ps.length):zAc 246 [zL (intE ps),zI s] [zI (dpt ps s:Nat)] []:=by
 refine zAC func246 fun w0 Z=>?_
 have hd:=Qj9 hv s hs
 repeat'(first|(refine zhm fun hb=>?_;try exact zab)|refine zUto ?_|refine zg2 ?_ ?_|intro _|fail)
 refine Qa (fun(x:Nat×Nat)=>⟨15,[(0,zL (intE ps)),(1,zI x.1),(5,zI x.2)],[]⟩) (fun x=>x.1<ps.length/\dpt ps s=dpt ps x.1+x.2) (fun x=>x.1) (s,0) (by exact⟨hs,rfl⟩) ?_ ?_
 ·exact zll
 ·rintro x ⟨hx,hn⟩
  repeat'(first|(refine zhm fun hb=>?_;try exact zab)|refine zUto ?_|refine zg2 ?_ ?_|intro _|fail)
  ·have hp:=hv x.1 (by omega) hx
   refine⟨((nth ps x.1).toNat,x.2+1),⟨by dsimp only;omega,by dsimp only;rw[QpF hv (by omega) hx]at hn;omega⟩,by dsimp only;omega,?_⟩
   exact zll
  ·have h0:x.1=0:=by omega
   rw[h0,QuM]at hn
   rw[show dpt ps s=x.2 by omega]
   exact zrr
end
section

def VA(ps:List Int)(s:Nat):List Nat:=(List.range ps.length).filter fun i=>decide (1<=i)&&decide (nth ps i=(s:Int))
theorem WI{ps:List Int}{s k:Nat}:k∈VA ps s↔k<ps.length/\1<=k/\nth ps k=(s:Int):=by
 simp[VA]
theorem QaW{ps:List Int}(hv:JZ ps){s k:Nat}(h:k∈VA ps s):s<k:=by
 obtain⟨h1,h2,h3⟩:=WI.1 h
 have:=hv k h2 h1
 omega
theorem Qf3{ps:List Int}{s:Nat}:VA ps s=[]↔Wa ps (s:Int)=true:=by
 rw[VS,List.eq_nil_iff_forall_not_mem]
 constructor
 ·intro h j h1 h2 h3
  exact h j (WI.2 ⟨h1,h2,h3⟩)
 ·intro h k hk
  obtain⟨h1,h2,h3⟩:=WI.1 hk
  exact h k h1 h2 h3
def lvGo(f:Nat->Int):List Nat->Option Int->Int
 | [],a=>a.getD (-1)+1
 | k::ks,a=>if f k<0\/(a.isSome=true/\f k≠a.getD (-1))then -1 else lvGo f ks (some (f k))
theorem Qbl{f g:Nat->Int}:∀{ks:List Nat} {a:Option Int},(∀k∈ks,f k=g k)->lvGo f ks a=lvGo g ks a
 | [],_,_=>rfl
 | k::ks,a,h=>by
  simp only[lvGo,h k Xaa]
  rw[Qbl fun x hx=>h x (Xae _ hx)]
theorem Qd4{f:Nat->Int}{m:Int}(hm:0<=m):∀{ks:List Nat},(∀k∈ks,f k=m)->lvGo f ks (some m)=m+1
 | [],_=>rfl
 | k::ks,h=>by
  have hk:=h k Xaa
  simp only[lvGo,hk]
  rw[if_neg (by simp;omega)]
  exact Qd4 hm fun x hx=>h x (Xae _ hx)
theorem Qfa{f:Nat->Int}{m:Int}(hm:0<=m):∀{ks:List Nat},0<=lvGo f ks (some m)->∀k∈ks,f k=m
 | [],_,k,hk=>by cases hk
 | x::ks,h,k,hk=>by
  simp only[lvGo]at h
  by_cases hx:f x=m
  ·rw[if_neg (by simp;omega),hx]at h
   rcases Xaj.1 hk with rfl|hk
   ·exact hx
   ·exact Qfa hm h k hk
  ·rw[if_pos (by simp;omega)]at h
   omega
theorem Qm9{f:Nat->Int}{n:Int}(hn:0<=n){ks:List Nat}(h0:ks≠[])(h:∀k∈ks,f k=n):lvGo f ks none=n+1:=by
 cases ks with
 | nil=>exact absurd rfl h0
 | cons k ks=>
  have hk:=h k Xaa
  simp only[lvGo,hk]
  rw[if_neg (by simp;omega)]
  exact Qd4 hn fun x hx=>h x (Xae _ hx)
theorem QeR{f:Nat->Int}{ks:List Nat}(h:0<=lvGo f ks none)(k:Nat)(hk:k∈ks):0<=f k/\f k+1=lvGo f ks none:=by
 cases ks with
 | nil=>cases hk
 | cons x ks=>
  simp only[lvGo]at h ⊢
  by_cases hx:f x<0
  ·rw[if_pos (by simp;omega)]at h
   omega
  ·rw[if_neg (by simp;omega)]at h ⊢
   have h2:=Qfa (by omega) h
   have h3:=Qd4 (f:=f) (m:=f x) (by omega) h2
   rw[h3]
   rcases Xaj.1 hk with rfl|hk
   ·omega
   ·rw[h2 k hk];omega
def lvF(ps:List Int):Nat->Nat->Int
 | 0,_=>-1
 | f+1,s=>lvGo (lvF ps f) (VA ps s) none
def lv(ps:List Int)(s:Nat):Int:=lvF ps (ps.length-s) s
theorem QuW{ps:List Int}(hv:JZ ps):∀(n s f:Nat),ps.length-s<=n->s<ps.length->ps.length-s<=f->lvF ps f s=lv ps s:=by
 intro n
 induction n with
 | zero=>intro s f h1 h2;omega
 | succ n ih=>
  intro s f h1 h2 h3
  obtain⟨f',rfl⟩:∃f',f=f'+1:=⟨f-1,by omega⟩
  unfold lv
  obtain⟨g,hg⟩:∃g,ps.length-s=g+1:=⟨ps.length-s-1,by omega⟩
  rw[hg]
  simp only[lvF]
  refine Qbl fun k hk=>?_
  have h4:=QaW hv hk
  have h5:=(WI.1 hk).1
  rw[ih k f' (by omega) h5 (by omega),ih k g (by omega) h5 (by omega)]
theorem Qgc{ps:List Int}(hv:JZ ps){s:Nat}(hs:s<ps.length):lv ps s=lvGo (lv ps) (VA ps s) none:=by
 conv=>lhs;unfold lv
 obtain⟨g,hg⟩:∃g,ps.length-s=g+1:=⟨ps.length-s-1,by omega⟩
 rw[hg]
 simp only[lvF]
 refine Qbl fun k hk=>?_
 have h4:=QaW hv hk
 have h5:=(WI.1 hk).1
 exact QuW hv (ps.length-k) k g (Xam _) h5 (by omega)
def Qm7(ps:List Int):Prop:=∀s s',s<ps.length->s'<ps.length->Wa ps (s:Int)=true->Wa ps (s':Int)=true->dpt ps s=dpt ps s'
theorem QmQ{ps:List Int}(hv:JZ ps)(h0:0<ps.length):Wa ps ((ps.length-1:Nat):Int)=true:=by
 rw[VS]
 intro j h1 h2 h3
 have:=hv j h2 h1
 omega
theorem QnR{ps:List Int}(hv:JZ ps)(h:0<=lv ps 0):∀(s:Nat),s<ps.length->0<=lv ps s/\lv ps s+dpt ps s=lv ps 0:=by
 intro s
 induction s using Nat.strongRecOn with
 | _ s ih=>
  intro hs
  by_cases h0:s=0
  ·subst h0
   exact⟨h,by rw[QuM];simp⟩
  ·have hp:=hv s (by omega) hs
   obtain⟨h1,h2⟩:=ih (nth ps s).toNat (by omega) (by omega)
   rw[Qgc hv (by omega)]at h1 h2
   have h3:=QeR h1 s (WI.2 ⟨hs,by omega,by omega⟩)
   have h4:=QpF hv (by omega) hs
   omega
theorem Quw{ps:List Int}(hv:JZ ps)(he:Qm7 ps)(h0:0<ps.length):∀(n s:Nat),ps.length-s<=n->s<ps.length->0<=lv ps s/\lv ps s+dpt ps s=dpt ps (ps.length-1):=by
 intro n
 induction n with
 | zero=>intro s h1 h2;omega
 | succ n ih=>
  intro s h1 hs
  by_cases hk:VA ps s=[]
  ·rw[Qgc hv hs,hk]
   have:=he s (ps.length-1) hs (by omega) (Qf3.1 hk) (QmQ hv h0)
   simp[lvGo,this]
  ·have h2:∀k∈VA ps s,0<=lv ps k/\lv ps k=(dpt ps (ps.length-1):Int)-(dpt ps s+1):=fun k hk=>by
    obtain⟨h3,h4,h5⟩:=WI.1 hk
    have h6:=QaW hv hk
    obtain⟨h7,h8⟩:=ih k (by omega) h3
    have h9:=QpF hv (by omega) h3
    rw[h5]at h9
    simp only[XcC]at h9
    omega
   obtain⟨k,hk'⟩:=List.exists_mem_of_ne_nil _ hk
   have h3:=h2 k hk'
   rw[Qgc hv hs,Qm9 (n:=(dpt ps (ps.length-1):Int)-(dpt ps s+1)) (by omega) hk (fun x hx=>(h2 x hx).2)]
   omega
theorem Qtq{ps:List Int}(hv:JZ ps)(h0:0<ps.length):0<=lv ps 0↔Qm7 ps:=by
 constructor
 ·intro h s s' hs hs' hl hl'
  have h1:=(QnR hv h s hs).2
  have h2:=(QnR hv h s' hs').2
  rw[Qgc hv hs,Qf3.2 hl]at h1
  rw[Qgc hv hs',Qf3.2 hl']at h2
  simp only[lvGo,Xb8]at h1 h2
  omega
 ·intro h
  exact(Quw hv h h0 ps.length 0 (by omega) h0).1
def lvl(ps:List Int)(s:Nat):Int:=(dpt ps (ps.length-1):Int)-(dpt ps s:Int)
theorem QkN{ps:List Int}(hv:JZ ps)(he:Qm7 ps){s:Nat}(hs:s<ps.length):lv ps s=lvl ps s:=by
 have:=(Quw hv he (by omega) ps.length s (by omega) hs).2
 unfold lvl
 omega
def Qit(ps:List Int)(n:X6):Prop:=(0<=n.leaf/\n.leaf<ps.length)/\Wa ps n.leaf=true/\Qh n.cap=true
structure QY (t:QW):Prop where
 len:1<=t.parents.length/\t.parents.length<=24
 zero:nth t.parents 0=0
 nlen:t.nodes.length<=24
 valid:JZ t.parents
 even:Qm7 t.parents
 nodes:∀j,j<t.nodes.length->Qit t.parents (nth t.nodes j)
open Classical in
noncomputable def Jq (t:QW):Bool:=decide (QY t)
open Classical in
theorem JT{t:QW}:Jq t=true↔QY t:=by unfold Jq;exact decide_eq_true_iff
open Classical in
theorem W6{t:QW}:Jq t=false↔¬QY t:=by unfold Jq;exact decide_eq_false_iff_not
end
section

def risI(l:List Int):Prop:=l.Pairwise (·<·)
theorem Qbq:∀{l l':List Int},risI l->risI l'->(∀x,x∈l↔x∈l')->l=l'
 | [],[],_,_,_=>rfl
 | [],x::l',_,_,h=>absurd ((h x).2 Xaa) (by simp)
 | x::l,[],_,_,h=>absurd ((h x).1 Xaa) (by simp)
 | x::l,y::l',h1,h2,h=>by
  unfold risI at h1 h2
  rw[Xau]at h1 h2
  have hxy:x=y:=by
   rcases Xaj.1 ((h x).1 Xaa)with e|e
   ·exact e
   ·rcases Xaj.1 ((h y).2 Xaa)with e'|e'
    ·exact e'.symm
    ·have:=h2.1 x e
     have:=h1.1 y e'
     omega
  subst hxy
  rw[Qbq h1.2 h2.2 fun z=>?_]
  constructor
  ·intro hz
   rcases Xaj.1 ((h z).1 (Xae _ hz))with e|e
   ·have:=h1.1 z hz;omega
   ·exact e
  ·intro hz
   rcases Xaj.1 ((h z).2 (Xae _ hz))with e|e
   ·have:=h2.1 z hz;omega
   ·exact e
def insI(t:Int):Bool->List Int->List Int
 | d,[]=>if d=true then[] else[t]
 | d,x::l=>(if d=false/\t<=x then[t] else[])++((if x≠t then[x] else[])++insI t (d||decide (t<=x)) l)
theorem Qh2{t:Int}:∀{l:List Int},(∀x∈l,t<x)->insI t true l=l
 | [],_=>rfl
 | x::l,h=>by
  have:=h x Xaa
  simp only[insI,Bool.true_or]
  rw[Qh2 fun y hy=>h y (Xae _ hy),if_neg (by simp),if_pos (by omega)]
  rfl
theorem QaC{t:Int}:∀{l:List Int},risI l->risI (insI t false l)/\∀x,x∈insI t false l↔x=t\/x∈l
 | [],_=>by simp[insI,risI]
 | y::l,h=>by
  unfold risI at h ⊢
  rw[Xau]at h
  simp only[insI,Bool.false_or]
  by_cases h1:t<=y
  ·rw[if_pos ⟨trivial,h1⟩,decide_eq_true h1,Qh2 fun z hz=>by have:=h.1 z hz;omega]
   by_cases h2:y=t
   ·rw[if_neg (by simp[h2])]
    subst h2
    refine⟨?_,fun x=>by simp⟩
    simp only[Xa5,XbE,Xau]
    exact h
   ·rw[if_pos h2]
    refine⟨?_,fun x=>by simp⟩
    simp only[XbE,Xau]
    refine⟨fun z hz=>?_,h⟩
    rcases Xaj.1 hz with rfl|hz
    ·omega
    ·have:=h.1 z hz;omega
  ·rw[if_neg (by simp;omega),decide_eq_false h1,if_pos (by omega)]
   obtain⟨h3,h4⟩:=QaC (t:=t) h.2
   refine⟨?_,fun x=>by simp[h4];constructor <;> (rintro (h|h|h) <;> simp[h])⟩
   simp only[Xa5,XbE,Xau]
   refine⟨fun z hz=>?_,h3⟩
   rcases(h4 z).1 hz with rfl|hz
   ·omega
   ·exact h.1 z hz
def Qbc:Int->List Int->List Int
 | _,[]=>[]
 | x,y::l=>if y=x then Qbc x l else y::Qbc y l
def cmpL:List Int->List Int
 | []=>[]
 | x::l=>x::Qbc x l
theorem Qea:∀{l:List Int} {x:Int},(x::l).Pairwise (·<=·)->(∀y∈Qbc x l,x<y)/\risI (Qbc x l)/\∀y,y∈Qbc x l\/y=x↔y∈x::l
 | [],x,_=>by simp[Qbc,risI]
 | z::l,x,h=>by
  rw[Xau]at h
  have h1:=h.1 z Xaa
  simp only[Qbc]
  by_cases hz:z=x
  ·subst hz
   rw[if_pos rfl]
   obtain⟨a1,a2,a3⟩:=Qea h.2
   refine⟨a1,a2,fun y=>?_⟩
   rw[a3]
   simp
  ·rw[if_neg hz]
   obtain⟨a1,a2,a3⟩:=Qea h.2
   refine⟨fun y hy=>?_,?_,fun y=>?_⟩
   ·rcases Xaj.1 hy with rfl|hy
    ·omega
    ·have:=a1 y hy;omega
   ·unfold risI
    rw[Xau]
    exact⟨a1,a2⟩
   ·have:=a3 y
    simp only[Xaj]at this ⊢
    constructor
    ·rintro ((e|e)|e)
     ·exact .inr (.inl e)
     ·exact .inr (this.1 (.inl e))
     ·exact .inl e
    ·rintro (e|e)
     ·exact .inr e
     ·rcases this.2 e with e|e
      ·exact .inl (.inr e)
      ·exact .inl (.inl e)
theorem Qj5{l:List Int}(h:l.Pairwise (·<=·)):risI (cmpL l)/\∀y,y∈cmpL l↔y∈l:=by
 cases l with
 | nil=>simp[cmpL,risI]
 | cons x l=>
  obtain⟨a1,a2,a3⟩:=Qea h
  refine⟨?_,fun y=>?_⟩
  ·unfold risI cmpL
   rw[Xau]
   exact⟨a1,a2⟩
  ·rw[<-a3 y,cmpL,Xaj]
   exact Or.comm
def srtI(l:List Int):List Int:=l.mergeSort fun x y=>decide (x<=y)
theorem QkF{l:List Int}{x:Int}:x∈srtI l↔x∈l:=List.mem_mergeSort
theorem Qi8(l:List Int):(srtI l).Pairwise (·<=·):=by
 have:=Xcf (le:=fun(x y:Int)=>decide (x<=y)) (fun a b c h1 h2=>by simp at *;omega) (fun a b=>by simp;omega) l
 exact this.imp fun h=>by simpa using h
theorem J4(l:List Int):(srtI l).length=l.length:=Xcl l

structure Pt where
 at':Int
 free:V3
instance:Inhabited V3:=⟨⟨0,0,0⟩⟩
instance:Inhabited Pt:=⟨⟨0,⟨0,0,0⟩⟩⟩
deriving instance DecidableEq for V3
def ptE(l:List Pt):List (List D):=l.map fun p=>[.n .i64 p.at',.n .i64 p.free.a,.n .i64 p.free.b,.n .i64 p.free.c]
@[reducible] def XA (l:List Pt):AV:=.agg [zL (ptE l)]
theorem JD(l:List Pt):(ptE l).length=l.length:=by simp[ptE]
def zV:V3:=⟨0,0,0⟩
structure Jp (l:List Pt):Prop where
 len:1<=l.length/\l.length<=200
 zero:(nth l 0).at'=0
 pts:∀j,j<l.length->(0<=(nth l j).at'/\(nth l j).at'<=1000000000)/\Qh (nth l j).free=true
 steps:∀j,j+1<l.length->(nth l j).at'<(nth l (j+1)).at'/\(nth l j).free≠(nth l (j+1)).free
open Classical in
noncomputable def JJ (l:List Pt):Bool:=decide (Jp l)
open Classical in
theorem JK{l:List Pt}:JJ l=true↔Jp l:=by unfold JJ;exact decide_eq_true_iff
open Classical in
theorem X9{l:List Pt}:JJ l=false↔¬Jp l:=by unfold JJ;exact decide_eq_false_iff_not
def atsI(l:List Pt):List Int:=l.map Pt.at'
def JF(l:List Pt)(t:Int):V3:=l.foldl (fun v x=>if x.at'<=t then x.free else v) zV
def VE(from' to:Int):Bool:=inB from' 0 1000000000&&inB to 0 1000000000&&decide (from'<to)
theorem Ja{α:Type}[Inhabited α]{l:List α}{j:Nat}(h:j<l.length):nth l j=l[j]:=by simp[nth,List.getD,h]
theorem QO{α:Type}[Inhabited α]{l:List α}{j:Nat}(h:j<l.length):nth l j∈l:=by rw[Ja h];exact Xbf h
theorem J1{α:Type}[Inhabited α]{l:List α}{x:α}(h:x∈l):∃j,j<l.length/\nth l j=x:=by
 obtain⟨j,hj,e⟩:=Xba h
 exact⟨j,hj,by rw[Ja hj];exact e⟩
theorem Qof{l:List Pt}(h:∀j,j+1<l.length->(nth l j).at'<(nth l (j+1)).at'):risI (atsI l):=by
 unfold risI atsI
 rw[Xbg,Xbm]
 intro i j hi hj hij
 have key:∀n,i+1+n<l.length->(nth l i).at'<(nth l (i+1+n)).at':=by
  intro n
  induction n with
  | zero=>intro hn;exact h i (by omega)
  | succ n ih=>
   intro hn
   have h1:=ih (by omega)
   have h2:=h (i+1+n) (by omega)
   have e:i+1+n+1=i+1+(n+1):=by omega
   rw[e]at h2
   omega
 have:=key (j-(i+1)) (by omega)
 rw[show i+1+(j-(i+1))=j by omega,Ja hi,Ja hj]at this
 exact this
theorem Jp.ris{l:List Pt}(h:Jp l):risI (atsI l):=Qof fun j hj=>(h.steps j hj).1
def QQ(l:List Pt)(from' to:Int):List Int:=insI to false (insI from' false (atsI l))
def Jj(l:List Pt)(from' to:Int):List Int:=cmpL (srtI ([from',to]++atsI l))
theorem QqU{l:List Pt}(h:Jp l)(from' to:Int):Jj l from' to=QQ l from' to:=by
 obtain⟨a1,a2⟩:=QaC (t:=from') h.ris
 obtain⟨b1,b2⟩:=QaC (t:=to) a1
 obtain⟨c1,c2⟩:=Qj5 (Qi8 ([from',to]++atsI l))
 refine Qbq c1 b1 fun x=>?_
 rw[Jj,c2,QkF,QQ,b2,a2]
 simp only[Xag,Xaj,Xb9,or_false]
 constructor
 ·rintro ((e|e)|e)
  ·exact .inr (.inl e)
  ·exact .inl e
  ·exact .inr (.inr e)
 ·rintro (e|e|e)
  ·exact .inl (.inr e)
  ·exact .inl (.inl e)
  ·exact .inr e
theorem Qan{l:List Pt}(h:Jp l)(from' to:Int):risI (QQ l from' to)/\∀x,x∈QQ l from' to↔x=to\/x=from'\/x∈atsI l:=by
 obtain⟨a1,a2⟩:=QaC (t:=from') h.ris
 obtain⟨b1,b2⟩:=QaC (t:=to) a1
 exact⟨b1,fun x=>by rw[QQ,b2,a2]⟩
def chgV(l:List Pt)(from' to:Int)(by':V3->Option V3)(t:Int):Option V3:=if from'<=t/\t<to then by' (JF l t)else some (JF l t)
def XQ(out:List Pt)(t:Int)(v:V3):List Pt:=if out=[]\/(nth out (out.length-1)).free≠v then out++[⟨t,v⟩]else out
def Vs(l:List Pt)(from' to:Int)(by':V3->Option V3):List Int->List Pt->Option (List Pt)
 | [],out=>some out
 | t::ts,out=>match chgV l from' to by' t with
  | none=>none
  | some v=>Vs l from' to by' ts (XQ out t v)
def chgP(l:List Pt)(from' to:Int)(by':V3->Option V3):Option (List Pt):=(Vs l from' to by' (QQ l from' to) []).bind fun out=>if out.length<=200 then some out else none
end
section
attribute [local irreducible] AWp QJ OpOk ACalls ChA QsOk MCalls EnC PY

@[reducible] def We (t:QW):List AV:=[zL (intE t.parents),zL (Qz t.nodes)]
theorem Qke{ps:List Int}(h:ps.length<=1000000000)(h0:0<ps.length)(hv:JZ ps):zAc 245 [zL (intE ps)] [zI (dpt ps (ps.length-1):Nat)] []:=by
 refine zAC func245 fun w0 Z=>?_
 repeat'(first|(refine zhm fun hb=>?_;try exact zab)|refine zUtp ?_|refine zg2 ?_ ?_|refine kc (QfN h hv (s:=ps.length-1) (by omega)) rfl rfl ?_|intro _|fail)
 exact zrr
theorem Qfv{t:QW}(ht:QY t){s:Nat}(hs:s<t.parents.length):zAc 194 [Yy t,zI s] [zI (lvl t.parents s)] []:=by
 refine zAC func194 fun w0 Z=>?_
 have hl:=ht.len
 have h1:=Qj9 ht.valid s hs
 have h2:=Qj9 ht.valid (t.parents.length-1) (by omega)
 repeat'(first|(refine zhm fun hb=>?_;try exact zab)|refine Qb2 ?_|(apply zch;exact zcg)|exact zhk|refine zg3 ?_ ?_|refine kc (Qke (ps:=t.parents) (by omega) (by omega) ht.valid) rfl rfl ?_|refine kc (QfN (ps:=t.parents) (by omega) ht.valid hs) rfl rfl ?_|refine kq (Qke (ps:=t.parents) (by omega) (by omega) ht.valid) rfl rfl ?_|refine kq (QfN (ps:=t.parents) (by omega) ht.valid hs) rfl rfl ?_|intro _|fail)
 exact zrr
theorem Qcf{t:QW}(hp:t.parents.length<=1000000000)(hn:t.nodes.length<=1000000000):zAc 219 [Yy t] [.d (.b (Jq t))] []:=by
 refine zAC func219 fun w0 Z=>?_
 repeat'(first|(refine zhm fun hb=>?_;try exact zab)|refine zUtp ?_|refine zg2 ?_ ?_|refine zqj QX ?_|intro _|fail)
 any_goals
  rw[show Jq t=false from W6.2 fun h=>by have h1:=h.len;have h2:=h.zero;have h3:=h.nlen;omega]
  refine zr [] ?_ ?_
  repeat'(first|exact ze3|refine ze2 ?_ ?_|refine ze4 ?_|exact ze5|fail)
  all_goals exact zp rfl
 refine Qa (fun(i:Nat)=>⟨97,[(1,.ptr 1 0),(3,zI i)],[(1,.box 43 (We t))]⟩) (fun i=>1<=i/\∀j,1<=j->j<i->j<t.parents.length->0<=nth t.parents j/\nth t.parents j<j) (fun i=>t.parents.length-i) 1 (by exact⟨Xam _,fun j h1 h2=>by omega⟩) ?_ ?_
 ·exact zll
 ·rintro i ⟨hi,hv⟩
  repeat'(first|(refine zhm fun hb=>?_;try exact zab)|refine zUtp ?_|refine zg2 ?_ ?_|refine zqj QX ?_|intro _|fail)
  any_goals
   rw[show Jq t=false from W6.2 fun h=>by have h1:=h.valid i (by omega) (by omega);omega]
   refine zr [] ?_ ?_
   repeat'(first|exact ze3|refine ze2 ?_ ?_|refine ze4 ?_|exact ze5|fail)
   all_goals exact zp rfl
  ·refine⟨i+1,⟨by omega,fun j h1 h2 h3=>?_⟩,by omega,?_⟩
   ·by_cases e:j=i
    ·subst e;omega
    ·exact hv j h1 (by omega) h3
   exact zll
  ·have hvp:JZ t.parents:=fun j h1 h2=>hv j h1 (by omega) h2
   refine Qa (fun(x:Nat×Int)=>⟨97,[(1,.ptr 1 0),(4,zI x.2),(45,zI (t.parents.length:Nat)),(46,zI x.1)],[(1,.box 43 (We t))]⟩) (fun x=>x.1<=t.parents.length/\(x.2 = -1\/∃r,r<t.parents.length/\Wa t.parents (r:Int)=true/\(dpt t.parents r:Int)=x.2)/\∀s,s<x.1->Wa t.parents (s:Int)=true->(dpt t.parents s:Int)=x.2) (fun x=>t.parents.length-x.1) (0,-1) (by exact⟨Xab _,.inl rfl,fun s h=>absurd h (Xas _)⟩) ?_ ?_
   ·exact zll
   ·rintro ⟨s,d⟩ ⟨h1,h2,h3⟩
    dsimp only at h1 h2 h3 ⊢
    by_cases hs:s<t.parents.length
    ·have hdl:=Qj9 hvp s hs
     have key:Wa t.parents (s:Int)=true->((dpt t.parents s:Int)=d\/d<0)->∀r,r<s+1->Wa t.parents (r:Int)=true->(dpt t.parents r:Int)=(dpt t.parents s:Int):=fun hl hd r hr hlr=>by
      by_cases e:r=s
      ·rw[e]
      ·have:=h3 r (by omega) hlr
       omega
     repeat'(first|(refine zhm fun hb=>?_;try exact zab)|refine zUtp ?_|refine zg2 ?_ ?_|refine kc (QfW (ps:=t.parents) (s:=s) hp) rfl rfl ?_|refine kc (QfN hp hvp hs) rfl rfl ?_|intro _|fail)
     ·refine⟨(s+1,d),⟨by dsimp only;omega,h2,fun r hr hl=>?_⟩,by dsimp only;omega,?_⟩
      ·by_cases e:r=s
       ·subst e;rename_i hb;rw[hl]at hb;cases hb
       ·exact h3 r (by dsimp only at hr;omega) hl
      exact zll
     ·rw[show Jq t=false from W6.2 fun h=>?_]
      ·exact zrr
      ·rcases h2 with h2|⟨r,r1,r2,r3⟩
       ·omega
       ·have:=h.even r s r1 hs r2 (by assumption)
        omega
     ·refine⟨(s+1,(dpt t.parents s:Int)),⟨by dsimp only;omega,.inr ⟨s,hs,by assumption,rfl⟩,key (by assumption) (.inl (by omega))⟩,by dsimp only;omega,?_⟩
      exact zll
     ·refine⟨(s+1,(dpt t.parents s:Int)),⟨by dsimp only;omega,.inr ⟨s,hs,by assumption,rfl⟩,key (by assumption) (.inr (by omega))⟩,by dsimp only;omega,?_⟩
      exact zll
    ·have hev:Qm7 t.parents:=fun r r' hr hr' hl hl'=>by
      have e1:=h3 r (by omega) hl
      have e2:=h3 r' (by omega) hl'
      omega
     repeat'(first|(refine zhm fun hb=>?_;try exact zab)|refine zUtp ?_|refine zg2 ?_ ?_|refine kc (QfW (ps:=t.parents) (s:=s) hp) rfl rfl ?_|intro _|fail)
     refine Qa (fun(i:Nat)=>⟨97,[(1,.ptr 1 0),(68,zL (Qz t.nodes)),(69,zI (t.nodes.length:Nat)),(70,zI i)],[(1,.box 43 (We t))]⟩) (fun i=>i<=t.nodes.length/\∀j,j<i->Qit t.parents (nth t.nodes j)) (fun i=>t.nodes.length-i) 0 (by exact⟨Xab _,fun s h=>absurd h (Xas _)⟩) ?_ ?_
     ·exact zll
     ·rintro i ⟨hi,hno⟩
      repeat'(first|(refine zhm fun hb=>?_;try exact zab)|refine zUtp ?_|refine zg2 ?_ ?_|refine zqj QX ?_|refine kc (QfW (ps:=t.parents) (s:=(nth t.nodes i).leaf) hp) rfl rfl ?_|refine kc (Yh (v:=(nth t.nodes i).cap)) rfl rfl ?_|intro _|fail)
      any_goals
       rw[show Jq t=false from W6.2 fun h=>by have h1:=h.nodes i (by omega);have h2:=h1.1;first|omega|(have h3:=h1.2.1;simp_all;done)|(have h3:=h1.2.2;simp_all;done)]
       refine zr [] ?_ ?_
       repeat'(first|exact ze3|refine ze2 ?_ ?_|refine ze4 ?_|exact ze5|fail)
       all_goals exact zp rfl
      ·refine⟨i+1,⟨by omega,fun j hj=>?_⟩,by omega,?_⟩
       ·by_cases e:j=i
        ·subst e;exact⟨by omega,by assumption,by assumption⟩
        ·exact hno j (by omega)
       exact zll
      ·rw[show Jq t=true from JT.2 ⟨by omega,by omega,by omega,hvp,hev,fun j hj=>hno j (by omega)⟩]
       exact zrr
end
end Go.Proofs.YtihgfennoalocaaGreat
