/-
  Trees of switches: the reference's kids, level, TopoOk; the ways up; areNodes, both.
-/
import Derived.Test.YtkdniahincpmaaaGreatQB8
set_option maxRecDepth 100000
set_option maxHeartbeats 16000000
namespace Go.Proofs.YtkdniahincpmaaaGreat
open Go Go.RowKit Tryz
section
attribute [local irreducible] AWp QM OpOk ACalls ChA QsOk MCalls EnC PY

def Qcn(ps:List Int)(s:Int)(n:Nat):List Int:=((List.range n).filter fun i=>decide (1<=i)&&decide (nth ps i=s)).map fun(i:Nat)=>(i:Int)
def Qag(ps:List Int)(s:Int):List Int:=Qcn ps s ps.length
theorem Qp8(ps:List Int)(s:Nat):Qag ps (s:Int)=(Zh ps s).map fun(i:Nat)=>(i:Int):=rfl
theorem Qpo{ps:List Int}{s:Int}{i:Nat}(h1:1<=i)(h:nth ps i=s):Qcn ps s (i+1)=Qcn ps s i++[(i:Int)]:=by
 unfold Qcn
 rw[XbR,Xa5,XaG]
 simp[h1,h]
theorem Qs4{ps:List Int}{s:Int}{i:Nat}(h:nth ps i≠s):Qcn ps s (i+1)=Qcn ps s i:=by
 unfold Qcn
 rw[XbR,Xa5,XaG]
 simp[h]
theorem Qeg(ps:List Int)(s:Int)(n:Nat):(Qcn ps s n).length<=n:=by
 unfold Qcn
 rw[Xar]
 exact Xam (Xa2 _ _) (by simp)
theorem JG(l:List Int)(x:Int):intE l++[[.n .i64 x]]=intE (l++[x]):=by simp[intE]
theorem Qd5{ps:List Int}{s:Int}:Qag ps s=[]↔Wx ps s=true:=by
 rw[Zx,Qag,Qcn,List.map_eq_nil_iff,Xb0]
 constructor
 ·intro h j a b d
  have:=h j (XbZ.2 a)
  simp at this
  exact this b d
 ·intro h j e
  have c:=XbZ.1 e
  simp only[Xac,decide_eq_true_eq]
  rintro ⟨a,b⟩
  exact h j c a b
theorem Qpc{ps:List Int}{s:Int}(h:0<(Qag ps s).length):Wx ps s=false:=by
 cases e:Wx ps s with
 | false=>rfl
 | true=>rw[Qd5.2 e]at h;exact absurd h (by decide)
theorem Qei{t:QX}{s:Int}(h0:0<t.parents.length)(h:t.parents.length<=1000000000):zAc 235 [YW t,zI s] [.row 0] [(0,.row 3 (intE (Qag t.parents s)) true)]:=by
 refine zAC func235 fun w0 Z=>?_
 repeat'(first|(refine zhm fun hb=>?_;try exact zab)|refine zUtp ?_|refine zg2 ?_ ?_|intro _)
 refine Qa (fun(i:Nat)=>⟨27,[(1,zI s),(2,.ptr 2 0),(5,.row 7),(6,zI i)],[(2,.box 26 (WH t)),(7,.row 3 (intE (Qcn t.parents s i)) true)]⟩) (fun i=>1<=i/\i<=t.parents.length) (fun i=>t.parents.length-i) 1 (by exact⟨Xaj _,h0⟩) ?_ ?_
 ·exact zll
 ·rintro i ⟨c,h2⟩
  have b:=Qeg t.parents s i
  have a:(intE (Qcn t.parents s i)).length=(Qcn t.parents s i).length:=Qc _
  repeat'(first|(refine zhm fun hb=>?_;try exact zab)|refine zUtp ?_|refine zg2 ?_ ?_|intro _)
  ·refine⟨i+1,⟨by omega,by omega⟩,by omega,?_⟩
   refine zag ?_;exact zp (by(rw[Qpo c (by assumption)];exact JG _ _))
  ·refine⟨i+1,⟨by omega,by omega⟩,by omega,?_⟩
   refine zag ?_;exact zp (by(rw[Qs4 (by assumption)]))
  ·have:i=t.parents.length:=by omega
   subst this
   exact zr [7] zae zae
theorem Qov{f:Nat->Int}:∀{ks:List Nat} {a:Option Int},(∀m,a=some m->0<=m)->-1<=lvGo f ks a
 | [],a,h=>by
  cases a with
  | none=>simp[lvGo]
  | some m=>have:=h m rfl;simp only[lvGo,XaJ];omega
 | k::ks,a,h=>by
  simp only[lvGo]
  split
  ·omega
  ·rename_i hk
   exact Qov fun m hm=>by injection hm with hm;omega
theorem Qyt{ps:List Int}(hv:Yc ps):∀(n s:Nat),ps.length-s<=n->s<ps.length->-1<=lv ps s/\lv ps s+s+1<=ps.length:=by
 intro n
 induction n with
 | zero=>intro s e h2;omega
 | succ n ih=>
  intro s e b
  have f : -1<=lv ps s:=by rw[QhC hv b];exact Qov fun m hm=>by cases hm
  refine⟨f,?_⟩
  by_cases c:0<=lv ps s
  ·by_cases d:Zh ps s=[]
   ·rw[QhC hv b,d]
    simp only[lvGo,Xce]
    omega
   ·obtain⟨k,a⟩:=List.exists_mem_of_ne_nil _ d
    have h5:=ih k (by have:=Qcp hv a;omega) (Vn.1 a).1
    have h6:=Qcp hv a
    rw[QhC hv b]at c ⊢
    have h7:=Qf6 c k a
    omega
  ·omega
theorem QsE{l:List Nat}{i:Nat}(h:i<l.length):nth (l.map fun(k:Nat)=>(k:Int)) i=((nth l i:Nat):Int):=by
 rw[Jd (by simpa using h),Jd h]
 simp
theorem VW{α:Type}[Inhabited α]{l:List α}{i:Nat}(h:i<l.length):l.drop i=nth l i::l.drop (i+1):=by
 rw[Jd h]
 exact Xa8 h
theorem Zs{t:QX}(h:t.parents.length<=1000000000)(hv:Yc t.parents):∀(n s:Nat),t.parents.length-s<=n->s<t.parents.length->zAc 208 [YW t,zI s] [zI (lv t.parents s)] []:=by
 intro n
 induction n with
 | zero=>intro s o h2;omega
 | succ n ih=>
  intro s o v
  refine zAC func208 fun w0 Z=>?_
  have u:(Qag t.parents (s:Int)).length<=t.parents.length:=Qeg _ _ _
  have r:(Qag t.parents (s:Int)).length=(Zh t.parents s).length:=by rw[Qp8,Xar]
  repeat'(first|(refine zhm fun hb=>?_;try exact zab)|refine zUtp ?_|refine zg2 ?_ ?_|refine kc (Qei (by omega) h) rfl rfl ?_|intro _)
  refine Qa (fun(x:Nat×Int)=>⟨36,[(2,.ptr 2 0),(5,zI x.2),(11,.row 11),(12,zI ((Qag t.parents (s:Int)).length:Nat)),(13,zI x.1)],[(2,.box 26 (WH t)),(11,.row 3 (intE (Qag t.parents (s:Int))) true)]⟩) (fun x=>x.1<=(Qag t.parents (s:Int)).length/\(-1<=x.2/\x.2<=1000000000)/\(x.1=0->x.2 = -1)/\lvGo (lv t.parents) ((Zh t.parents s).drop x.1) (if x.1=0 then none else some x.2)=lv t.parents s) (fun x=>(Qag t.parents (s:Int)).length-x.1) (0,-1) (by exact⟨Xae _,by decide,fun _=>rfl,(QhC hv v).symm⟩) ?_ ?_
  ·exact zll
  ·rintro ⟨i,a⟩ ⟨k,l,g,b⟩
   dsimp only at k l g b ⊢
   by_cases hi:i<(Qag t.parents (s:Int)).length
   ·have c:i<(Zh t.parents s).length:=by omega
    have j:nth (Zh t.parents s) i∈Zh t.parents s:=QE c
    have q:=Qcp hv j
    have f:=(Vn.1 j).1
    have p:=ih (nth (Zh t.parents s) i) (by omega) f
    have hb:=Qyt hv (t.parents.length-nth (Zh t.parents s) i) (nth (Zh t.parents s) i) (by omega) f
    rw[<-QsE c,<-Qp8]at p
    rw[VW c]at b
    simp only[lvGo]at b
    repeat'(first|(refine zhm fun hb=>?_;try exact zab)|refine zUtp ?_|refine zg2 ?_ ?_|intro _)
    ·rw[if_pos (.inl (by assumption))]at b
     rw[<-b]
     exact zrr
    ·rw[if_pos (.inr ⟨by rw[if_neg (by omega)];rfl,by rw[if_neg (by omega)];assumption⟩)]at b
     rw[<-b]
     exact zrr
    ·refine⟨(i+1,lv t.parents (nth (Zh t.parents s) i)),⟨by dsimp only;omega,by dsimp only;omega,fun h=>by dsimp only at h;omega,?_⟩,by dsimp only;omega,?_⟩
     ·rw[if_neg (not_or.2 ⟨by omega,fun e=>by rw[if_neg (by omega)]at e;exact e.2 (by assumption)⟩)]at b
      exact b
     exact zll
    ·refine⟨(i+1,lv t.parents (nth (Zh t.parents s) i)),⟨by dsimp only;omega,by dsimp only;omega,fun h=>by dsimp only at h;omega,?_⟩,by dsimp only;omega,?_⟩
     ·have d:i=0:=by omega
      rw[if_pos d,if_neg (not_or.2 ⟨by omega,fun e=>by cases e.1⟩)]at b
      exact b
     exact zll
   ·repeat'(first|(refine zhm fun hb=>?_;try exact zab)|refine zUtp ?_|refine zg2 ?_ ?_|intro _)
    rw[Xbb (by omega)]at b
    have m:a+1=lv t.parents s:=by
     rw[<-b]
     by_cases d:i=0
     ·rw[g d,d];rfl
     ·rw[if_neg d];rfl
    rw[<-m]
    exact zrr
theorem ZW{t:QX}(hp:t.parents.length<=1000000000)(hn:t.nodes.length<=1000000000):zAc 269 [YW t] [.d (.b (JB t))] []:=by
 refine zAC func269 fun w0 Z=>?_
 repeat'(first|(refine zhm fun hb=>?_;try exact zab)|refine zUtp ?_|refine zg2 ?_ ?_|intro _)
 any_goals
  rw[show JB t=false from Vx.2 fun h=>by have a:=h.len;have f:=h.zero;have g:=h.nlen;omega]
  refine zr [] ?_ ?_
  repeat'(first|exact ze3|refine ze2 ?_ ?_|refine ze4 ?_|exact ze5|fail)
  all_goals exact zp rfl
 refine Qa (fun(i:Nat)=>⟨87,[(1,.ptr 1 0),(3,zI i)],[(1,.box 26 (WH t))]⟩) (fun i=>1<=i/\∀j,1<=j->j<i->j<t.parents.length->0<=nth t.parents j/\nth t.parents j<j) (fun i=>t.parents.length-i) 1 (by exact⟨Xaj _,fun j a f=>by omega⟩) ?_ ?_
 ·exact zll
 ·rintro i ⟨n,m⟩
  repeat'(first|(refine zhm fun hb=>?_;try exact zab)|refine zUtp ?_|refine zg2 ?_ ?_|intro _)
  any_goals
   rw[show JB t=false from Vx.2 fun h=>by have a:=h.valid i (by omega) (by omega);omega]
   refine zr [] ?_ ?_
   repeat'(first|exact ze3|refine ze2 ?_ ?_|refine ze4 ?_|exact ze5|fail)
   all_goals exact zp rfl
  ·refine⟨i+1,⟨by omega,fun j a f g=>?_⟩,by omega,?_⟩
   ·by_cases e:j=i
    ·subst e;omega
    ·exact m j a (by omega) g
   exact zll
  ·have c:Yc t.parents:=fun j a f=>m j a (by omega) f
   refine Qa (fun(i:Nat)=>⟨87,[(1,.ptr 1 0),(52,zL (Qr t.nodes)),(53,zI (t.nodes.length:Nat)),(54,zI i)],[(1,.box 26 (WH t))]⟩) (fun i=>i<=t.nodes.length/\∀j,j<i->QjU t.parents (nth t.nodes j)) (fun i=>t.nodes.length-i) 0 (by exact⟨Xae _,fun s h=>absurd h (Xaq _)⟩) ?_ ?_
   ·exact zll
   ·rintro i ⟨n,k⟩
    have o:(Qag t.parents (nth t.nodes i).leaf).length<=t.parents.length:=Qeg _ _ _
    repeat'(first|(refine zhm fun hb=>?_;try exact zab)|refine zUtp ?_|refine zg2 ?_ ?_|refine kc (Qei (t:=t) (s:=(nth t.nodes i).leaf) (by omega) hp) rfl rfl ?_|refine kc (J9 (v:=(nth t.nodes i).cap)) rfl rfl ?_|refine kc (Zs hp c t.parents.length 0 (by omega) (by omega)) rfl rfl ?_|intro _)
    any_goals
     rw[show JB t=false from Vx.2 fun h=>by have a:=h.nodes i (by omega);have f:=a.1;first|omega|(have g:=a.2.1;have l:=Qpc (ps:=t.parents) (s:=(nth t.nodes i).leaf) (by omega);rw[g]at l;cases l;done)|(have g:=a.2.2;simp_all;done)]
     refine zr [] ?_ ?_
     repeat'(first|exact ze3|refine ze2 ?_ ?_|refine ze4 ?_|exact ze5|fail)
     all_goals exact zp rfl
    ·refine⟨i+1,⟨by omega,fun j hj=>?_⟩,by omega,?_⟩
     ·by_cases e:j=i
      ·subst e;exact⟨by omega,Qd5.1 (Xbl.1 (by omega)),by assumption⟩
      ·exact k j (by omega)
     exact zll
    ·rw[show JB t=decide (0<=lv t.parents 0) from ?_]
     ·exact zrr
     ·rw[Xan,J8,decide_eq_true_eq,QwM c (by omega)]
      exact⟨fun h=>h.even,fun h=>⟨by omega,by omega,by omega,c,h,fun j hj=>k j (by omega)⟩⟩

def abvT(ps:List Int):Nat->Nat->List Int
 | 0,_=>[]
 | f+1,s=>if s=0 then[] else((nth ps s).toNat:Int)::abvT ps f (nth ps s).toNat
def abvU(ps:List Int)(s:Nat):List Int:=abvT ps s s
def abv(ps:List Int)(s:Nat):List Int:=(s:Int)::abvU ps s
theorem Qu9{ps:List Int}(hv:Yc ps):∀(s f:Nat),s<=f->s<ps.length->abvT ps f s=abvU ps s:=by
 intro s
 induction s using Nat.strongRecOn with
 | _ s ih=>
  intro f hf a
  cases s with
  | zero=>
   cases f with
   | zero=>rfl
   | succ f=>rfl
  | succ s=>
   cases f with
   | zero=>omega
   | succ f=>
    have hp:=hv (s+1) (by omega) a
    unfold abvU
    rw[abvT,abvT,if_neg (by omega),if_neg (by omega),ih _ (by omega) f (by omega) (by omega),ih _ (by omega) s (by omega) (by omega)]
theorem QpT(ps:List Int):abvU ps 0=[]:=rfl
theorem QhQ{ps:List Int}(hv:Yc ps){s:Nat}(h0:0<s)(hs:s<ps.length):abvU ps s=((nth ps s).toNat:Int)::abvU ps (nth ps s).toNat:=by
 have hp:=hv s (by omega) hs
 obtain⟨k,rfl⟩:∃k,s=k+1:=⟨s-1,by omega⟩
 conv=>lhs;unfold abvU
 rw[abvT,if_neg (by omega),Qu9 hv _ _ (by omega) (by omega)]
theorem QtH{ps:List Int}(hv:Yc ps):∀(s:Nat),s<ps.length->(abvU ps s).length<=s:=by
 intro s
 induction s using Nat.strongRecOn with
 | _ s ih=>
  intro a
  by_cases b:s=0
  ·subst b;exact Xaj _
  ·have hp:=hv s (by omega) a
   rw[QhQ hv (by omega) a,Xap]
   have:=ih (nth ps s).toNat (by omega) (by omega)
   omega
theorem Qha{ps:List Int}(hv:Yc ps){s:Nat}(hs:s<ps.length):(abv ps s).length<=ps.length:=by
 have:=QtH hv s hs
 simp only[abv,Xap]
 omega
theorem Qs2{ps:List Int}(hv:Yc ps):∀(s:Nat),s<ps.length->hasI (abv ps s) 0=true:=by
 intro s
 induction s using Nat.strongRecOn with
 | _ s ih=>
  intro a
  by_cases b:s=0
  ·subst b;rfl
  ·have hp:=hv s (by omega) a
   have:=ih (nth ps s).toNat (by omega) (by omega)
   unfold hasI abv at this ⊢
   rw[List.any_cons,QhQ hv (by omega) a,this,Bool.or_true]
theorem Qrk{t:QX}{s:Nat}(h:t.parents.length<=1000000000)(hv:Yc t.parents)(hs:s<t.parents.length):zAc 68 [YW t,zI s] [.row 0] [(0,.row 3 (intE (abv t.parents s)) true)]:=by
 refine zAC func68 fun w0 Z=>?_
 repeat'(first|(refine zhm fun hb=>?_;try exact zab)|refine zUto ?_|refine zg2 ?_ ?_|intro _)
 refine Qa (fun(x:Nat×List Int)=>⟨20,[(1,zI x.1),(2,.ptr 2 0),(5,.row 7)],[(2,.box 26 (WH t)),(7,.row 3 (intE x.2) true)]⟩) (fun x=>(x.1<t.parents.length/\x.2.length+x.1<=s+1)/\x.2++abvU t.parents x.1=abv t.parents s) (fun x=>x.1) (s,[(s:Int)]) (by exact⟨⟨hs,by dsimp only[List.length_cons,List.length_nil];omega⟩,rfl⟩) ?_ ?_
 ·exact zll
 ·rintro ⟨i,l⟩ ⟨⟨b,d⟩,a⟩
  dsimp only at b d a ⊢
  have c:(intE l).length=l.length:=Qc _
  repeat'(first|(refine zhm fun hb=>?_;try exact zab)|refine zUto ?_|refine zg2 ?_ ?_|intro _)
  ·have hp:=hv i (by omega) b
   refine⟨((nth t.parents i).toNat,l++[((nth t.parents i).toNat:Int)]),⟨⟨by dsimp only;omega,by dsimp only;rw[Xab];simp only[Xap,XaS];omega⟩,?_⟩,by dsimp only;omega,?_⟩
   ·dsimp only
    rw[<-a,QhQ hv (by omega) b,Xao]
    rfl
   refine⟨rfl,?_,?_,rfl⟩
   repeat'(first|exact ze3|refine ze2 ?_ ?_|refine ze4 ?_|exact ze5|fail)
   all_goals exact zp (by first|rfl|omega|(rw[Xbi (by omega)];exact JG _ _))
  ·have:i=0:=by omega
   subst this
   rw[QpT,Xa3]at a
   rw[<-a]
   exact zr [7] zae zae
theorem QrG{t:QX}{s:Nat}(h:t.parents.length<=1000000000)(hv:Yc t.parents)(hs:s<t.parents.length):zAc 268 [YW t,zI s] [.row 0] [(0,.row 3 (intE (abv t.parents s)) true)]:=by
 refine zAC func268 fun w0 Z=>?_
 repeat'(first|(refine zhm fun hb=>?_;try exact zab)|refine zUto ?_|refine zg2 ?_ ?_|intro _)
 refine Qa (fun(x:Nat×List Int)=>⟨20,[(1,zI x.1),(2,.ptr 2 0),(5,.row 7)],[(2,.box 26 (WH t)),(7,.row 3 (intE x.2) true)]⟩) (fun x=>(x.1<t.parents.length/\x.2.length+x.1<=s+1)/\x.2++abvU t.parents x.1=abv t.parents s) (fun x=>x.1) (s,[(s:Int)]) (by exact⟨⟨hs,by dsimp only[List.length_cons,List.length_nil];omega⟩,rfl⟩) ?_ ?_
 ·exact zll
 ·rintro ⟨i,l⟩ ⟨⟨b,d⟩,a⟩
  dsimp only at b d a ⊢
  have c:(intE l).length=l.length:=Qc _
  repeat'(first|(refine zhm fun hb=>?_;try exact zab)|refine zUto ?_|refine zg2 ?_ ?_|intro _)
  ·have hp:=hv i (by omega) b
   refine⟨((nth t.parents i).toNat,l++[((nth t.parents i).toNat:Int)]),⟨⟨by dsimp only;omega,by dsimp only;rw[Xab];simp only[Xap,XaS];omega⟩,?_⟩,by dsimp only;omega,?_⟩
   ·dsimp only
    rw[<-a,QhQ hv (by omega) b,Xao]
    rfl
   refine⟨rfl,?_,?_,rfl⟩
   repeat'(first|exact ze3|refine ze2 ?_ ?_|refine ze4 ?_|exact ze5|fail)
   all_goals exact zp (by first|rfl|omega|(rw[Xbi (by omega)];exact JG _ _))
  ·have:i=0:=by omega
   subst this
   rw[QpT,Xa3]at a
   rw[<-a]
   exact zr [7] zae zae
def Jo(t:QX)(l:List Int):Prop:=∀j,j<l.length->0<=nth l j/\nth l j<t.nodes.length
open Classical in
noncomputable def Z0 (t:QX) (l:List Int):Bool:=decide (Jo t l)&&JB t
open Classical in
theorem QlY{t:QX}{l:List Int}(h:Jo t l):Z0 t l=JB t:=by
 unfold Z0
 rw[decide_eq_true h]
 rfl
open Classical in
theorem QlZ{t:QX}{l:List Int}{j:Nat}(hj:j<l.length)(h:¬(0<=nth l j/\nth l j<t.nodes.length)):Z0 t l=false:=by
 unfold Z0
 rw[decide_eq_false (fun h'=>h (h' j hj))]
 rfl
open Classical in
theorem Zo{t:QX}{l:List Int}:Z0 t l=true↔Jo t l/\Q3 t:=by
 unfold Z0
 rw[Xac,decide_eq_true_eq,J8]
theorem QfL{t:QX}{l:List Int}(hp:t.parents.length<=1000000000)(hn:t.nodes.length<=1000000000)(hl:l.length<=1000000000):zAc 66 [YW t,zL (intE l)] [.d (.b (Z0 t l))] []:=by
 refine zAC func66 fun w0 Z=>?_
 repeat'(first|(refine zhm fun hb=>?_;try exact zab)|refine zUtp ?_|refine zg2 ?_ ?_|intro _)
 refine Qa (fun(i:Nat)=>⟨23,[(2,.ptr 2 0),(7,zL (intE l)),(8,zI (l.length:Nat)),(9,zI i)],[(2,.box 26 (WH t))]⟩) (fun i=>i<=l.length/\∀j,j<i->0<=nth l j/\nth l j<t.nodes.length) (fun i=>l.length-i) 0 (by exact⟨Xae _,fun j hj=>absurd hj (Xaq _)⟩) ?_ ?_
 ·exact zll
 ·rintro i ⟨hi,a⟩
  have c:(Qr t.nodes).length=t.nodes.length:=Qw _
  repeat'(first|(refine zhm fun hb=>?_;try exact zab)|refine zUtp ?_|refine zg2 ?_ ?_|refine zqj Q5 ?_|refine kc (Qdx hp hn) rfl rfl ?_|intro _)
  ·rw[QlZ (j:=i) (by omega) (by omega)]
   exact zrr
  ·refine⟨i+1,⟨by omega,fun j hj=>?_⟩,by omega,?_⟩
   ·by_cases e:j=i
    ·subst e;omega
    ·exact a j (by omega)
   exact zll
  ·rw[QlY fun j hj=>a j (by omega)]
   exact zrr
theorem Qce{t:QX}{l:List Int}(hp:t.parents.length<=1000000000)(hn:t.nodes.length<=1000000000)(hl:l.length<=1000000000):zAc 266 [YW t,zL (intE l)] [.d (.b (Z0 t l))] []:=by
 refine zAC func266 fun w0 Z=>?_
 repeat'(first|(refine zhm fun hb=>?_;try exact zab)|refine zUtp ?_|refine zg2 ?_ ?_|intro _)
 refine Qa (fun(i:Nat)=>⟨25,[(2,.ptr 2 0),(7,zL (intE l)),(8,zI (l.length:Nat)),(9,zI i)],[(2,.box 26 (WH t))]⟩) (fun i=>i<=l.length/\∀j,j<i->0<=nth l j/\nth l j<t.nodes.length) (fun i=>l.length-i) 0 (by exact⟨Xae _,fun j hj=>absurd hj (Xaq _)⟩) ?_ ?_
 ·exact zll
 ·rintro i ⟨hi,a⟩
  have c:(Qr t.nodes).length=t.nodes.length:=Qw _
  repeat'(first|(refine zhm fun hb=>?_;try exact zab)|refine zUtp ?_|refine zg2 ?_ ?_|refine kc (ZW hp hn) rfl rfl ?_|intro _)
  any_goals
   rw[QlZ (j:=i) (by omega) (by omega)]
   refine zr [] ?_ ?_
   repeat'(first|exact ze3|refine ze2 ?_ ?_|refine ze4 ?_|exact ze5|fail)
   all_goals exact zp rfl
  ·refine⟨i+1,⟨by omega,fun j hj=>?_⟩,by omega,?_⟩
   ·by_cases e:j=i
    ·subst e;omega
    ·exact a j (by omega)
   exact zll
  ·rw[QlY fun j hj=>a j (by omega)]
   exact zrr
def ascP(l:List Int):Prop:=∀j,j+1<l.length->nth l j<nth l (j+1)
open Classical in
noncomputable def ascB (l:List Int):Bool:=decide (ascP l)
open Classical in
theorem Qou{l:List Int}:ascB l=true↔ascP l:=by unfold ascB;exact decide_eq_true_iff
open Classical in
theorem Qyg{l:List Int}:ascB l=false↔¬ascP l:=by unfold ascB;exact decide_eq_false_iff_not
theorem Qal{l:List Int}(hl:l.length<=1000000000):zAc 113 [zL (intE l)] [.d (.b (ascB l))] []:=by
 refine zAC func113 fun w0 Z=>?_
 repeat'(first|(refine zhm fun hb=>?_;try exact zab)|refine Qd ?_|(apply zch;exact zcg)|exact zhk|refine zg3 ?_ ?_|intro _)
 refine Qa (fun(i:Nat)=>⟨20,[(0,zL (intE l)),(3,zI i)],[]⟩) (fun i=>1<=i/\∀j,j+1<i->j+1<l.length->nth l j<nth l (j+1)) (fun i=>l.length-i) 1 (by exact⟨Xaj _,fun j h1 h2=>by omega⟩) ?_ ?_
 ·exact zll
 ·rintro i ⟨hi,a⟩
  repeat'(first|(refine zhm fun hb=>?_;try exact zab)|refine Qd ?_|(apply zch;exact zcg)|exact zhk|refine zg3 ?_ ?_|intro _)
  ·rw[Qyg.2 fun h=>by have:=h (i-1) (by omega);rw[show i-1+1=i by omega]at this;omega]
   exact zrr
  ·refine⟨i+1,⟨by omega,fun j h1 h2=>?_⟩,by omega,?_⟩
   ·by_cases e:j+1=i
    ·subst e;rw[show j+1-1=j by omega]at *;omega
    ·exact a j (by omega) h2
   exact zll
  ·rw[Qou.2 fun j hj=>a j (by omega) hj]
   exact zrr
end
section
attribute [local irreducible] AWp QM OpOk ACalls ChA QsOk MCalls EnC PY

noncomputable def pB (p:Prop):Bool:=@decide p (Classical.propDecidable p)
open Classical in
theorem pB_t{p:Prop}:pB p=true↔p:=by unfold pB;exact decide_eq_true_iff
open Classical in
theorem pB_f{p:Prop}:pB p=false↔¬p:=by unfold pB;exact decide_eq_false_iff_not
def Jc(t:QX)(n:Int):Nat:=(nth t.nodes n.toNat).leaf.toNat
def allU(t:QX)(l:List Int)(s:Nat):Bool:=l.all fun n=>hasI (abv t.parents (Jc t n)) s
def lowU(t:QX)(l:List Int):Nat->Int
 | 0=>-1
 | s+1=>if allU t l s=true/\(lowU t l s<0\/lvl t.parents s<=lvl t.parents (lowU t l s).toNat)then s else lowU t l s
def lowI(t:QX)(l:List Int):Int:=lowU t l t.parents.length
theorem QiT(t:QX)(l:List Int)(s:Nat):lowU t l (s+1)=if allU t l s=true/\(lowU t l s<0\/lvl t.parents s<=lvl t.parents (lowU t l s).toNat) then(s:Int)else lowU t l s:=rfl
theorem QhM(t:QX)(l:List Int):∀(s:Nat),-1<=lowU t l s/\lowU t l s<s
 | 0=>by simp[lowU]
 | s+1=>by
  have:=QhM t l s
  simp only[lowU]
  split
  ·omega
  ·omega
theorem Q3.leaf{t:QX}(h:Q3 t){l:List Int}(hl:Jo t l){j:Nat}(hj:j<l.length):Jc t (nth l j)<t.parents.length/\(nth t.nodes (nth l j).toNat).leaf=(Jc t (nth l j):Int):=by
 have h1:=hl j hj
 have h2:=(h.nodes (nth l j).toNat (by omega)).1
 unfold Jc
 omega
theorem Qxc{t:QX}(h:Q3 t){l:List Int}(hl:Jo t l):lowU t l 1=0:=by
 rw[QiT,if_pos]
 ·rfl
 ·refine⟨?_,.inl (by simp[lowU])⟩
  unfold allU
  rw[XaD]
  intro n b
  obtain⟨j,a,e⟩:=Jt b
  have:=h.leaf hl a
  rw[e]at this
  exact Qs2 h.valid _ this.1
theorem QkG{t:QX}(h:Q3 t){l:List Int}(hl:Jo t l):∀(s:Nat),1<=s->0<=lowU t l s
 | 0,h=>by omega
 | s+1,h1=>by
  by_cases h0:s=0
  ·subst h0;rw[Qxc h hl];decide
  ·have:=QkG h hl s (by omega)
   simp only[lowU]
   split <;> omega
theorem Qj1{t:QX}(h:Q3 t){l:List Int}(hl:Jo t l):0<=lowI t l/\lowI t l<t.parents.length:=
 ⟨QkG h hl _ h.len.1,(QhM t l _).2⟩
def allT(t:QX)(l:List Int)(s k:Nat):Bool:=(l.take k).all fun n=>hasI (abv t.parents (Jc t n)) s
theorem QmL{t:QX}{l:List Int}{s k:Nat}(h:k<l.length):allT t l s (k+1)=(allT t l s k&&hasI (abv t.parents (Jc t (nth l k))) s):=by
 unfold allT
 rw[Xb6,List.getElem?_eq_getElem h,List.all_append,Jd h]
 simp
theorem QlO{t:QX}{l:List Int}{s k:Nat}(h:l.length<=k):allT t l s k=allU t l s:=by
 unfold allT allU
 rw[Xay h]
theorem V6{t:QX}{l:List Int}{s k:Nat}(hk:l.length<=k)(h:allT t l s k=true)(h2:lowU t l s<0\/lvl t.parents s<=lvl t.parents (lowU t l s).toNat):(s:Int)=lowU t l (s+1):=by
 rw[QiT,if_pos ⟨by rw[<-QlO hk];exact h,h2⟩]
theorem Qc6{t:QX}{l:List Int}{s k:Nat}(hk:l.length<=k)(h:allT t l s k=false):lowU t l s=lowU t l (s+1):=by
 rw[QiT,if_neg]
 rintro ⟨a,_⟩
 rw[<-QlO hk,h]at a
 cases a
theorem Qdu{t:QX}{l:List Int}{s:Nat}(h1:0<=lowU t l s)(h:lvl t.parents (lowU t l s).toNat<lvl t.parents s):lowU t l s=lowU t l (s+1):=by
 rw[QiT,if_neg]
 rintro ⟨_,h2⟩
 omega
theorem QsR{t:QX}{l:List Int}(ht:Q3 t)(hl:Jo t l)(h0:0<l.length)(hll:l.length<=1000000000):zAc 23 [YW t,zL (intE l)] [zI (lowI t l)] []:=by
 refine zAC func23 fun w0 Z=>?_
 have q:=ht.len
 have r:=ht.nlen
 have j:=QfL (t:=t) (l:=l) (by omega) (by omega) hll
 rw[Zo.2 ⟨hl,ht⟩]at j
 repeat'(first|(refine zhm fun hb=>?_;try exact zab)|refine Qd ?_|(apply zch;exact zcg)|exact zhk|refine zg3 ?_ ?_|intro _)
 refine Qa (fun(s:Nat)=>⟨62,[(1,zL (intE l)),(2,.ptr 2 0),(5,zI (lowU t l s)),(21,zI (t.parents.length:Nat)),(22,zI s)],[(2,.box 26 (WH t))]⟩) (fun s=>s<=t.parents.length) (fun s=>t.parents.length-s) 0 (by exact Xae _) ?_ ?_
 ·exact zll
 ·intro s hs
  by_cases g:s<t.parents.length
  ·repeat'(first|(refine zhm fun hb=>?_;try exact zab)|refine Qd ?_|(apply zch;exact zcg)|exact zhk|refine zg3 ?_ ?_|intro _)
   refine Qa (fun(k:Nat)=>⟨62,[(1,zL (intE l)),(2,.ptr 2 0),(5,zI (lowU t l s)),(6,zI s),(7,.d (.b (allT t l s k))),(21,zI (t.parents.length:Nat)),(22,zI s),(25,zL (intE l)),(26,zI (l.length:Nat)),(27,zI k)],[(2,.box 26 (WH t))]⟩) (fun k=>k<=l.length) (fun k=>l.length-k) 0 (by exact Xae _) ?_ ?_
   ·exact zll
   ·intro k hk
    by_cases a:k<l.length
    ·have c:=ht.leaf hl a
     have m:=hl k a
     have i:=Qha ht.valid c.1
     have e:=Qrk (t:=t) (s:=Jc t (nth l k)) (by omega) ht.valid c.1
     rw[<-c.2]at e
     repeat'(first|(apply QY 11;kernel_rfl;exact rfl)|(refine zhm fun hb=>?_;try exact zab)|refine Qd ?_|(apply zch;exact zcg)|exact zhk|refine zg3 ?_ ?_|refine kc (Vt (l:=abv t.parents (Jc t (nth l k))) (x:=(s:Int)) (by omega)) rfl rfl ?_|refine kq (Vt (l:=abv t.parents (Jc t (nth l k))) (x:=(s:Int)) (by omega)) rfl rfl ?_|intro _)
     all_goals
      refine⟨k+1,by omega,by omega,?_⟩
      refine⟨rfl,?_,?_,rfl⟩
      repeat'(first|exact ze3|refine ze2 ?_ ?_|refine ze4 ?_|exact ze5|fail)
      all_goals exact zp (by first|rfl|(rw[QmL a];simp only[*,XbD,Xcd];done)|(rw[QmL a];simp only[*,XbD,Xcd];rfl))
    ·have p:=QhM t l s
     have n:lowU t l s<0\/(lowU t l s).toNat<t.parents.length:=by omega
     have o:=QgX ht g
     by_cases h:lowU t l s<0
     ·repeat'(first|(refine zhm fun hb=>?_;try exact zab)|refine Qd ?_|(apply zch;exact zcg)|exact zhk|refine zg3 ?_ ?_|intro _)
      all_goals
       refine⟨s+1,by omega,by omega,?_⟩
       refine⟨rfl,?_,?_,rfl⟩
       repeat'(first|exact ze3|refine ze2 ?_ ?_|refine ze4 ?_|exact ze5|fail)
       all_goals exact zp (by first|rfl|exact V6 (k:=k) (by omega) (by assumption) (Or.inl (by omega))|exact V6 (k:=k) (by omega) (by assumption) (Or.inr (by assumption))|exact Qc6 (k:=k) (by omega) (by assumption)|exact Qdu (by omega) (by omega))
     ·have f:=QgX ht (s:=(lowU t l s).toNat) (by omega)
      rw[Xbi (by omega)]at f
      repeat'(first|(refine zhm fun hb=>?_;try exact zab)|refine Qd ?_|(apply zch;exact zcg)|exact zhk|refine zg3 ?_ ?_|intro _)
      all_goals
       refine⟨s+1,by omega,by omega,?_⟩
       refine⟨rfl,?_,?_,rfl⟩
       repeat'(first|exact ze3|refine ze2 ?_ ?_|refine ze4 ?_|exact ze5|fail)
       all_goals exact zp (by first|rfl|exact V6 (k:=k) (by omega) (by assumption) (Or.inl (by omega))|exact V6 (k:=k) (by omega) (by assumption) (Or.inr (by assumption))|exact Qc6 (k:=k) (by omega) (by assumption)|exact Qdu (by omega) (by omega))
  ·repeat'(first|(refine zhm fun hb=>?_;try exact zab)|refine Qd ?_|(apply zch;exact zcg)|exact zhk|refine zg3 ?_ ?_|intro _)
   have:s=t.parents.length:=by omega
   subst this
   exact zrr
theorem QsM{t:QX}{l:List Int}(ht:Q3 t)(hl:Jo t l)(h0:0<l.length)(hll:l.length<=1000000000):zAc 209 [YW t,zL (intE l)] [zI (lowI t l)] []:=by
 refine zAC func209 fun w0 Z=>?_
 have q:=ht.len
 have r:=ht.nlen
 have m:=Qce (t:=t) (l:=l) (by omega) (by omega) hll
 rw[Zo.2 ⟨hl,ht⟩]at m
 repeat'(first|(refine zhm fun hb=>?_;try exact zab)|refine Qd ?_|(apply zch;exact zcg)|exact zhk|refine zg3 ?_ ?_|intro _)
 refine Qa (fun(s:Nat)=>⟨61,[(1,zL (intE l)),(2,.ptr 2 0),(5,zI (lowU t l s)),(22,zI (t.parents.length:Nat)),(23,zI s)],[(2,.box 26 (WH t))]⟩) (fun s=>s<=t.parents.length) (fun s=>t.parents.length-s) 0 (by exact Xae _) ?_ ?_
 ·exact zll
 ·intro s hs
  by_cases e:s<t.parents.length
  ·repeat'(first|(refine zhm fun hb=>?_;try exact zab)|refine Qd ?_|(apply zch;exact zcg)|exact zhk|refine zg3 ?_ ?_|intro _)
   refine Qa (fun(k:Nat)=>⟨61,[(1,zL (intE l)),(2,.ptr 2 0),(5,zI (lowU t l s)),(6,zI s),(7,.d (.b (allT t l s k))),(22,zI (t.parents.length:Nat)),(23,zI s),(26,zL (intE l)),(27,zI (l.length:Nat)),(28,zI k)],[(2,.box 26 (WH t))]⟩) (fun k=>k<=l.length) (fun k=>l.length-k) 0 (by exact Xae _) ?_ ?_
   ·exact zll
   ·intro k hk
    by_cases a:k<l.length
    ·have c:=ht.leaf hl a
     have n:=hl k a
     have j:=Qha ht.valid c.1
     have f:=QrG (t:=t) (s:=Jc t (nth l k)) (by omega) ht.valid c.1
     rw[<-c.2]at f
     repeat'(first|(apply QY 11;kernel_rfl;exact rfl)|(refine zhm fun hb=>?_;try exact zab)|refine Qd ?_|(apply zch;exact zcg)|exact zhk|refine zg3 ?_ ?_|refine kc (WX (l:=abv t.parents (Jc t (nth l k))) (x:=(s:Int)) (by omega)) rfl rfl ?_|refine kq (WX (l:=abv t.parents (Jc t (nth l k))) (x:=(s:Int)) (by omega)) rfl rfl ?_|intro _)
     all_goals
      refine⟨k+1,by omega,by omega,?_⟩
      refine⟨rfl,?_,?_,rfl⟩
      repeat'(first|exact ze3|refine ze2 ?_ ?_|refine ze4 ?_|exact ze5|fail)
      all_goals exact zp (by first|rfl|(rw[QmL a];simp only[*,Xcm,Bool.and_true];done)|(rw[QmL a];simp only[*,Xcm];rfl))
    ·have p:=QhM t l s
     have o:lowU t l s<0\/(lowU t l s).toNat<t.parents.length:=by omega
     have g:=Zs (by omega) ht.valid (t.parents.length-s) s (by omega) e
     rw[Qk6 ht.valid ht.even e]at g
     by_cases i:lowU t l s<0
     ·repeat'(first|(refine zhm fun hb=>?_;try exact zab)|refine Qd ?_|(apply zch;exact zcg)|exact zhk|refine zg3 ?_ ?_|intro _)
      all_goals
       refine⟨s+1,by omega,by omega,?_⟩
       refine⟨rfl,?_,?_,rfl⟩
       repeat'(first|exact ze3|refine ze2 ?_ ?_|refine ze4 ?_|exact ze5|fail)
       all_goals exact zp (by first|rfl|exact V6 (k:=k) (by omega) (by assumption) (Or.inl (by omega))|exact V6 (k:=k) (by omega) (by assumption) (Or.inr (by assumption))|exact Qc6 (k:=k) (by omega) (by assumption)|exact Qdu (by omega) (by omega))
     ·have h:=Zs (by omega) ht.valid (t.parents.length-(lowU t l s).toNat) (lowU t l s).toNat (by omega) (by omega)
      rw[Qk6 ht.valid ht.even (by omega),Xbi (by omega)]at h
      repeat'(first|(refine zhm fun hb=>?_;try exact zab)|refine Qd ?_|(apply zch;exact zcg)|exact zhk|refine zg3 ?_ ?_|intro _)
      all_goals
       refine⟨s+1,by omega,by omega,?_⟩
       refine⟨rfl,?_,?_,rfl⟩
       repeat'(first|exact ze3|refine ze2 ?_ ?_|refine ze4 ?_|exact ze5|fail)
       all_goals exact zp (by first|rfl|exact V6 (k:=k) (by omega) (by assumption) (Or.inl (by omega))|exact V6 (k:=k) (by omega) (by assumption) (Or.inr (by assumption))|exact Qc6 (k:=k) (by omega) (by assumption)|exact Qdu (by omega) (by omega))
  ·repeat'(first|(refine zhm fun hb=>?_;try exact zab)|refine Qd ?_|(apply zch;exact zcg)|exact zhk|refine zg3 ?_ ?_|intro _)
   have:s=t.parents.length:=by omega
   subst this
   exact zrr
end
end Go.Proofs.YtkdniahincpmaaaGreat
