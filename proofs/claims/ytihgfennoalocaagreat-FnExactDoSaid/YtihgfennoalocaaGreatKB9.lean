/-
  Trees of switches: the reference's kids, level, TopoOk; the ways up; areNodes, both.
-/
import Derived.Test.YtihgfennoalocaaGreatKB7
import Derived.Test.YtihgfennoalocaaGreatKB8
set_option maxRecDepth 100000
set_option maxHeartbeats 16000000
namespace Go.Proofs.YtihgfennoalocaaGreat
open Go Go.RowKit Tryz
section
attribute [local irreducible] AWp QJ OpOk ACalls ChA QsOk MCalls EnC PY

def QbF(ps:List Int)(s:Int)(n:Nat):List Int:=((List.range n).filter fun i=>decide (1<=i)&&decide (nth ps i=s)).map fun(i:Nat)=>(i:Int)
def XB(ps:List Int)(s:Int):List Int:=QbF ps s ps.length
theorem QnN(ps:List Int)(s:Nat):XB ps (s:Int)=(VA ps s).map fun(i:Nat)=>(i:Int):=rfl
theorem QnM{ps:List Int}{s:Int}{i:Nat}(h1:1<=i)(h:nth ps i=s):QbF ps s (i+1)=QbF ps s i++[(i:Int)]:=by
 unfold QbF
 rw[XbP,Xa9,XaI]
 simp[h1,h]
theorem Qqd{ps:List Int}{s:Int}{i:Nat}(h:nth ps i≠s):QbF ps s (i+1)=QbF ps s i:=by
 unfold QbF
 rw[XbP,Xa9,XaI]
 simp[h]
theorem Qdd(ps:List Int)(s:Int)(n:Nat):(QbF ps s n).length<=n:=by
 unfold QbF
 rw[Xah]
 exact Xao (Xa1 _ _) (by simp)
theorem Jt(l:List Int)(x:Int):intE l++[[.n .i64 x]]=intE (l++[x]):=by simp[intE]
theorem Qdb{ps:List Int}{s:Int}:XB ps s=[]↔Wa ps s=true:=by
 rw[VS,XB,QbF,List.map_eq_nil_iff,Xch]
 constructor
 ·intro h j h1 h2 h3
  have:=h j (Xb4.2 h1)
  simp at this
  exact this h2 h3
 ·intro h j hj
  have hj':=Xb4.1 hj
  simp only[Xaf,decide_eq_true_eq]
  rintro ⟨h1,h2⟩
  exact h j hj' h1 h2
theorem Qoz{ps:List Int}{s:Int}(h:0<(XB ps s).length):Wa ps s=false:=by
 cases e:Wa ps s with
 | false=>rfl
 | true=>rw[Qdb.2 e]at h;exact absurd h (by decide)
theorem Qd6{t:QW}{s:Int}(h0:0<t.parents.length)(h:t.parents.length<=1000000000):zAc 227 [Yy t,zI s] [.row 0] [(0,.row 3 (intE (XB t.parents s)) true)]:=by
 refine zAC func227 fun w0 Z=>?_
 repeat'(first|(refine zhm fun hb=>?_;try exact zab)|refine zUtp ?_|refine zg2 ?_ ?_|intro _|fail)
 refine Qa (fun(i:Nat)=>⟨27,[(1,zI s),(2,.ptr 2 0),(5,.row 7),(6,zI i)],[(2,.box 43 (We t)),(7,.row 3 (intE (QbF t.parents s i)) true)]⟩) (fun i=>1<=i/\i<=t.parents.length) (fun i=>t.parents.length-i) 1 (by exact⟨Xam _,h0⟩) ?_ ?_
 ·exact zll
 ·rintro i ⟨h1,h2⟩
  have hlen:=Qdd t.parents s i
  have hlen2:(intE (QbF t.parents s i)).length=(QbF t.parents s i).length:=Qb _
  repeat'(first|(refine zhm fun hb=>?_;try exact zab)|refine zUtp ?_|refine zg2 ?_ ?_|intro _|fail)
  ·refine⟨i+1,⟨by omega,by omega⟩,by omega,?_⟩
   refine zag ?_;exact zp (by(rw[QnM h1 (by assumption)];exact Jt _ _))
  ·refine⟨i+1,⟨by omega,by omega⟩,by omega,?_⟩
   refine zag ?_;exact zp (by(rw[Qqd (by assumption)]))
  ·have:i=t.parents.length:=by omega
   subst this
   exact zr [7] zae zae
theorem QoB{f:Nat->Int}:∀{ks:List Nat} {a:Option Int},(∀m,a=some m->0<=m)->-1<=lvGo f ks a
 | [],a,h=>by
  cases a with
  | none=>simp[lvGo]
  | some m=>have:=h m rfl;simp only[lvGo,XaP];omega
 | k::ks,a,h=>by
  simp only[lvGo]
  split
  ·omega
  ·rename_i hk
   exact QoB fun m hm=>by injection hm with hm;omega
theorem Qvv{ps:List Int}(hv:JZ ps):∀(n s:Nat),ps.length-s<=n->s<ps.length->-1<=lv ps s/\lv ps s+s+1<=ps.length:=by
 intro n
 induction n with
 | zero=>intro s h1 h2;omega
 | succ n ih=>
  intro s h1 hs
  have h3 : -1<=lv ps s:=by rw[Qgc hv hs];exact QoB fun m hm=>by cases hm
  refine⟨h3,?_⟩
  by_cases h4:0<=lv ps s
  ·by_cases hk:VA ps s=[]
   ·rw[Qgc hv hs,hk]
    simp only[lvGo,Xb8]
    omega
   ·obtain⟨k,hk'⟩:=List.exists_mem_of_ne_nil _ hk
    have h5:=ih k (by have:=QaW hv hk';omega) (WI.1 hk').1
    have h6:=QaW hv hk'
    rw[Qgc hv hs]at h4 ⊢
    have h7:=QeR h4 k hk'
    omega
  ·omega
theorem QqN{l:List Nat}{i:Nat}(h:i<l.length):nth (l.map fun(k:Nat)=>(k:Int)) i=((nth l i:Nat):Int):=by
 rw[Ja (by simpa using h),Ja h]
 simp
theorem Vh{α:Type}[Inhabited α]{l:List α}{i:Nat}(h:i<l.length):l.drop i=nth l i::l.drop (i+1):=by
 rw[Ja h]
 exact Xa4 h
theorem VN{t:QW}(h:t.parents.length<=1000000000)(hv:JZ t.parents):∀(n s:Nat),t.parents.length-s<=n->s<t.parents.length->zAc 174 [Yy t,zI s] [zI (lv t.parents s)] []:=by
 intro n
 induction n with
 | zero=>intro s h1 h2;omega
 | succ n ih=>
  intro s h1 hs
  refine zAC func174 fun w0 Z=>?_
  have hkl:(XB t.parents (s:Int)).length<=t.parents.length:=Qdd _ _ _
  have hkN:(XB t.parents (s:Int)).length=(VA t.parents s).length:=by rw[QnN,Xah]
  repeat'(first|(refine zhm fun hb=>?_;try exact zab)|refine zUtp ?_|refine zg2 ?_ ?_|refine kc (Qd6 (by omega) h) rfl rfl ?_|intro _|fail)
  refine Qa (fun(x:Nat×Int)=>⟨36,[(2,.ptr 2 0),(5,zI x.2),(11,.row 11),(12,zI ((XB t.parents (s:Int)).length:Nat)),(13,zI x.1)],[(2,.box 43 (We t)),(11,.row 3 (intE (XB t.parents (s:Int))) true)]⟩) (fun x=>x.1<=(XB t.parents (s:Int)).length/\(-1<=x.2/\x.2<=1000000000)/\(x.1=0->x.2 = -1)/\lvGo (lv t.parents) ((VA t.parents s).drop x.1) (if x.1=0 then none else some x.2)=lv t.parents s) (fun x=>(XB t.parents (s:Int)).length-x.1) (0,-1) (by exact⟨Xab _,by decide,fun _=>rfl,(Qgc hv hs).symm⟩) ?_ ?_
  ·exact zll
  ·rintro ⟨i,a⟩ ⟨g1,g2,g3,g4⟩
   dsimp only at g1 g2 g3 g4 ⊢
   by_cases hi:i<(XB t.parents (s:Int)).length
   ·have hi':i<(VA t.parents s).length:=by omega
    have hk:nth (VA t.parents s) i∈VA t.parents s:=QO hi'
    have hgt:=QaW hv hk
    have hlt:=(WI.1 hk).1
    have hc:=ih (nth (VA t.parents s) i) (by omega) hlt
    have hb:=Qvv hv (t.parents.length-nth (VA t.parents s) i) (nth (VA t.parents s) i) (by omega) hlt
    rw[<-QqN hi',<-QnN]at hc
    rw[Vh hi']at g4
    simp only[lvGo]at g4
    repeat'(first|(refine zhm fun hb=>?_;try exact zab)|refine zUtp ?_|refine zg2 ?_ ?_|intro _|fail)
    ·rw[if_pos (.inl (by assumption))]at g4
     rw[<-g4]
     exact zrr
    ·rw[if_pos (.inr ⟨by rw[if_neg (by omega)];rfl,by rw[if_neg (by omega)];assumption⟩)]at g4
     rw[<-g4]
     exact zrr
    ·refine⟨(i+1,lv t.parents (nth (VA t.parents s) i)),⟨by dsimp only;omega,by dsimp only;omega,fun h=>by dsimp only at h;omega,?_⟩,by dsimp only;omega,?_⟩
     ·rw[if_neg (not_or.2 ⟨by omega,fun e=>by rw[if_neg (by omega)]at e;exact e.2 (by assumption)⟩)]at g4
      exact g4
     exact zll
    ·refine⟨(i+1,lv t.parents (nth (VA t.parents s) i)),⟨by dsimp only;omega,by dsimp only;omega,fun h=>by dsimp only at h;omega,?_⟩,by dsimp only;omega,?_⟩
     ·have h0:i=0:=by omega
      rw[if_pos h0,if_neg (not_or.2 ⟨by omega,fun e=>by cases e.1⟩)]at g4
      exact g4
     exact zll
   ·repeat'(first|(refine zhm fun hb=>?_;try exact zab)|refine zUtp ?_|refine zg2 ?_ ?_|intro _|fail)
    rw[Xa7 (by omega)]at g4
    have g5:a+1=lv t.parents s:=by
     rw[<-g4]
     by_cases h0:i=0
     ·rw[g3 h0,h0];rfl
     ·rw[if_neg h0];rfl
    rw[<-g5]
    exact zrr
theorem Zb{t:QW}(hp:t.parents.length<=1000000000)(hn:t.nodes.length<=1000000000):zAc 188 [Yy t] [.d (.b (Jq t))] []:=by
 refine zAC func188 fun w0 Z=>?_
 repeat'(first|(refine zhm fun hb=>?_;try exact zab)|refine zUtp ?_|refine zg2 ?_ ?_|intro _|fail)
 any_goals
  rw[show Jq t=false from W6.2 fun h=>by have h1:=h.len;have h2:=h.zero;have h3:=h.nlen;omega]
  refine zr [] ?_ ?_
  repeat'(first|exact ze3|refine ze2 ?_ ?_|refine ze4 ?_|exact ze5|fail)
  all_goals exact zp rfl
 refine Qa (fun(i:Nat)=>⟨87,[(1,.ptr 1 0),(3,zI i)],[(1,.box 43 (We t))]⟩) (fun i=>1<=i/\∀j,1<=j->j<i->j<t.parents.length->0<=nth t.parents j/\nth t.parents j<j) (fun i=>t.parents.length-i) 1 (by exact⟨Xam _,fun j h1 h2=>by omega⟩) ?_ ?_
 ·exact zll
 ·rintro i ⟨hi,hv⟩
  repeat'(first|(refine zhm fun hb=>?_;try exact zab)|refine zUtp ?_|refine zg2 ?_ ?_|intro _|fail)
  any_goals
   rw[show Jq t=false from W6.2 fun h=>by have h1:=h.valid i (by omega) (by omega);omega]
   refine zr [] ?_ ?_
   repeat'(first|exact ze3|refine ze2 ?_ ?_|refine ze4 ?_|exact ze5|fail)
   all_goals exact zp rfl
  ·refine⟨i+1,⟨by omega,fun j h1 h2 h3=>?_⟩,by omega,?_⟩
   ·by_cases e:j=i
    ·subst e;omega
    ·exact hv j h1 (by omega) h3
   exact zll
  ·have hvp:JZ t.parents:=fun j h1 h2=>hv j h1 (by omega) h2
   refine Qa (fun(i:Nat)=>⟨87,[(1,.ptr 1 0),(52,zL (Qz t.nodes)),(53,zI (t.nodes.length:Nat)),(54,zI i)],[(1,.box 43 (We t))]⟩) (fun i=>i<=t.nodes.length/\∀j,j<i->Qit t.parents (nth t.nodes j)) (fun i=>t.nodes.length-i) 0 (by exact⟨Xab _,fun s h=>absurd h (Xas _)⟩) ?_ ?_
   ·exact zll
   ·rintro i ⟨hi,hno⟩
    have hkl:(XB t.parents (nth t.nodes i).leaf).length<=t.parents.length:=Qdd _ _ _
    repeat'(first|(refine zhm fun hb=>?_;try exact zab)|refine zUtp ?_|refine zg2 ?_ ?_|refine kc (Qd6 (t:=t) (s:=(nth t.nodes i).leaf) (by omega) hp) rfl rfl ?_|refine kc (JV (v:=(nth t.nodes i).cap)) rfl rfl ?_|refine kc (VN hp hvp t.parents.length 0 (by omega) (by omega)) rfl rfl ?_|intro _|fail)
    any_goals
     rw[show Jq t=false from W6.2 fun h=>by have h1:=h.nodes i (by omega);have h2:=h1.1;first|omega|(have h3:=h1.2.1;have h4:=Qoz (ps:=t.parents) (s:=(nth t.nodes i).leaf) (by omega);rw[h3]at h4;cases h4;done)|(have h3:=h1.2.2;simp_all;done)]
     refine zr [] ?_ ?_
     repeat'(first|exact ze3|refine ze2 ?_ ?_|refine ze4 ?_|exact ze5|fail)
     all_goals exact zp rfl
    ·refine⟨i+1,⟨by omega,fun j hj=>?_⟩,by omega,?_⟩
     ·by_cases e:j=i
      ·subst e;exact⟨by omega,Qdb.1 (Xbi.1 (by omega)),by assumption⟩
      ·exact hno j (by omega)
     exact zll
    ·rw[show Jq t=decide (0<=lv t.parents 0) from ?_]
     ·exact zrr
     ·rw[Xan,JT,decide_eq_true_eq,Qtq hvp (by omega)]
      exact⟨fun h=>h.even,fun h=>⟨by omega,by omega,by omega,hvp,h,fun j hj=>hno j (by omega)⟩⟩

def abvT(ps:List Int):Nat->Nat->List Int
 | 0,_=>[]
 | f+1,s=>if s=0 then[] else((nth ps s).toNat:Int)::abvT ps f (nth ps s).toNat
def abvU(ps:List Int)(s:Nat):List Int:=abvT ps s s
def abv(ps:List Int)(s:Nat):List Int:=(s:Int)::abvU ps s
theorem Qti{ps:List Int}(hv:JZ ps):∀(s f:Nat),s<=f->s<ps.length->abvT ps f s=abvU ps s:=by
 intro s
 induction s using Nat.strongRecOn with
 | _ s ih=>
  intro f hf hs
  cases s with
  | zero=>
   cases f with
   | zero=>rfl
   | succ f=>rfl
  | succ s=>
   cases f with
   | zero=>omega
   | succ f=>
    have hp:=hv (s+1) (by omega) hs
    unfold abvU
    rw[abvT,abvT,if_neg (by omega),if_neg (by omega),ih _ (by omega) f (by omega) (by omega),ih _ (by omega) s (by omega) (by omega)]
theorem Qo9(ps:List Int):abvU ps 0=[]:=rfl
theorem QgH{ps:List Int}(hv:JZ ps){s:Nat}(h0:0<s)(hs:s<ps.length):abvU ps s=((nth ps s).toNat:Int)::abvU ps (nth ps s).toNat:=by
 have hp:=hv s (by omega) hs
 obtain⟨k,rfl⟩:∃k,s=k+1:=⟨s-1,by omega⟩
 conv=>lhs;unfold abvU
 rw[abvT,if_neg (by omega),Qti hv _ _ (by omega) (by omega)]
theorem QpV{ps:List Int}(hv:JZ ps):∀(s:Nat),s<ps.length->(abvU ps s).length<=s:=by
 intro s
 induction s using Nat.strongRecOn with
 | _ s ih=>
  intro hs
  by_cases h0:s=0
  ·subst h0;exact Xam _
  ·have hp:=hv s (by omega) hs
   rw[QgH hv (by omega) hs,Xar]
   have:=ih (nth ps s).toNat (by omega) (by omega)
   omega
theorem QgA{ps:List Int}(hv:JZ ps){s:Nat}(hs:s<ps.length):(abv ps s).length<=ps.length:=by
 have:=QpV hv s hs
 simp only[abv,Xar]
 omega
theorem QrA{ps:List Int}(hv:JZ ps):∀(s:Nat),s<ps.length->hasI (abv ps s) 0=true:=by
 intro s
 induction s using Nat.strongRecOn with
 | _ s ih=>
  intro hs
  by_cases h0:s=0
  ·subst h0;rfl
  ·have hp:=hv s (by omega) hs
   have:=ih (nth ps s).toNat (by omega) (by omega)
   unfold hasI abv at this ⊢
   rw[List.any_cons,QgH hv (by omega) hs,this,Bool.or_true]
theorem Qog{t:QW}{s:Nat}(h:t.parents.length<=1000000000)(hv:JZ t.parents)(hs:s<t.parents.length):zAc 249 [Yy t,zI s] [.row 0] [(0,.row 3 (intE (abv t.parents s)) true)]:=by
 refine zAC func249 fun w0 Z=>?_
 repeat'(first|(refine zhm fun hb=>?_;try exact zab)|refine zUto ?_|refine zg2 ?_ ?_|intro _|fail)
 refine Qa (fun(x:Nat×List Int)=>⟨20,[(1,zI x.1),(2,.ptr 2 0),(5,.row 7)],[(2,.box 43 (We t)),(7,.row 3 (intE x.2) true)]⟩) (fun x=>(x.1<t.parents.length/\x.2.length+x.1<=s+1)/\x.2++abvU t.parents x.1=abv t.parents s) (fun x=>x.1) (s,[(s:Int)]) (by exact⟨⟨hs,by dsimp only[List.length_cons,List.length_nil];omega⟩,rfl⟩) ?_ ?_
 ·exact zll
 ·rintro ⟨i,l⟩ ⟨⟨h1,h2⟩,h3⟩
  dsimp only at h1 h2 h3 ⊢
  have hlen2:(intE l).length=l.length:=Qb _
  repeat'(first|(refine zhm fun hb=>?_;try exact zab)|refine zUto ?_|refine zg2 ?_ ?_|intro _|fail)
  ·have hp:=hv i (by omega) h1
   refine⟨((nth t.parents i).toNat,l++[((nth t.parents i).toNat:Int)]),⟨⟨by dsimp only;omega,by dsimp only;rw[Xac];simp only[Xar,XaU];omega⟩,?_⟩,by dsimp only;omega,?_⟩
   ·dsimp only
    rw[<-h3,QgH hv (by omega) h1,Xaq]
    rfl
   refine⟨rfl,?_,?_,rfl⟩
   repeat'(first|exact ze3|refine ze2 ?_ ?_|refine ze4 ?_|exact ze5|fail)
   all_goals exact zp (by first|rfl|omega|(rw[Xax (by omega)];exact Jt _ _))
  ·have:i=0:=by omega
   subst this
   rw[Qo9,Xa2]at h3
   rw[<-h3]
   exact zr [7] zae zae
theorem QnT{t:QW}{s:Nat}(h:t.parents.length<=1000000000)(hv:JZ t.parents)(hs:s<t.parents.length):zAc 230 [Yy t,zI s] [.row 0] [(0,.row 3 (intE (abv t.parents s)) true)]:=by
 refine zAC func230 fun w0 Z=>?_
 repeat'(first|(refine zhm fun hb=>?_;try exact zab)|refine zUto ?_|refine zg2 ?_ ?_|intro _|fail)
 refine Qa (fun(x:Nat×List Int)=>⟨20,[(1,zI x.1),(2,.ptr 2 0),(5,.row 7)],[(2,.box 43 (We t)),(7,.row 3 (intE x.2) true)]⟩) (fun x=>(x.1<t.parents.length/\x.2.length+x.1<=s+1)/\x.2++abvU t.parents x.1=abv t.parents s) (fun x=>x.1) (s,[(s:Int)]) (by exact⟨⟨hs,by dsimp only[List.length_cons,List.length_nil];omega⟩,rfl⟩) ?_ ?_
 ·exact zll
 ·rintro ⟨i,l⟩ ⟨⟨h1,h2⟩,h3⟩
  dsimp only at h1 h2 h3 ⊢
  have hlen2:(intE l).length=l.length:=Qb _
  repeat'(first|(refine zhm fun hb=>?_;try exact zab)|refine zUto ?_|refine zg2 ?_ ?_|intro _|fail)
  ·have hp:=hv i (by omega) h1
   refine⟨((nth t.parents i).toNat,l++[((nth t.parents i).toNat:Int)]),⟨⟨by dsimp only;omega,by dsimp only;rw[Xac];simp only[Xar,XaU];omega⟩,?_⟩,by dsimp only;omega,?_⟩
   ·dsimp only
    rw[<-h3,QgH hv (by omega) h1,Xaq]
    rfl
   refine⟨rfl,?_,?_,rfl⟩
   repeat'(first|exact ze3|refine ze2 ?_ ?_|refine ze4 ?_|exact ze5|fail)
   all_goals exact zp (by first|rfl|omega|(rw[Xax (by omega)];exact Jt _ _))
  ·have:i=0:=by omega
   subst this
   rw[Qo9,Xa2]at h3
   rw[<-h3]
   exact zr [7] zae zae
def Jz(t:QW)(l:List Int):Prop:=∀j,j<l.length->0<=nth l j/\nth l j<t.nodes.length
open Classical in
noncomputable def Zl (t:QW) (l:List Int):Bool:=decide (Jz t l)&&Jq t
open Classical in
theorem QkM{t:QW}{l:List Int}(h:Jz t l):Zl t l=Jq t:=by
 unfold Zl
 rw[decide_eq_true h]
 rfl
open Classical in
theorem QkK{t:QW}{l:List Int}{j:Nat}(hj:j<l.length)(h:¬(0<=nth l j/\nth l j<t.nodes.length)):Zl t l=false:=by
 unfold Zl
 rw[decide_eq_false (fun h'=>h (h' j hj))]
 rfl
open Classical in
theorem VQ{t:QW}{l:List Int}:Zl t l=true↔Jz t l/\QY t:=by
 unfold Zl
 rw[Xaf,decide_eq_true_eq,JT]
theorem QeB{t:QW}{l:List Int}(hp:t.parents.length<=1000000000)(hn:t.nodes.length<=1000000000)(hl:l.length<=1000000000):zAc 247 [Yy t,zL (intE l)] [.d (.b (Zl t l))] []:=by
 refine zAC func247 fun w0 Z=>?_
 repeat'(first|(refine zhm fun hb=>?_;try exact zab)|refine zUtp ?_|refine zg2 ?_ ?_|intro _|fail)
 refine Qa (fun(i:Nat)=>⟨23,[(2,.ptr 2 0),(7,zL (intE l)),(8,zI (l.length:Nat)),(9,zI i)],[(2,.box 43 (We t))]⟩) (fun i=>i<=l.length/\∀j,j<i->0<=nth l j/\nth l j<t.nodes.length) (fun i=>l.length-i) 0 (by exact⟨Xab _,fun j hj=>absurd hj (Xas _)⟩) ?_ ?_
 ·exact zll
 ·rintro i ⟨hi,hp'⟩
  have hnl:(Qz t.nodes).length=t.nodes.length:=Qr _
  repeat'(first|(refine zhm fun hb=>?_;try exact zab)|refine zUtp ?_|refine zg2 ?_ ?_|refine zqj QX ?_|refine kc (Qcf hp hn) rfl rfl ?_|intro _|fail)
  ·rw[QkK (j:=i) (by omega) (by omega)]
   exact zrr
  ·refine⟨i+1,⟨by omega,fun j hj=>?_⟩,by omega,?_⟩
   ·by_cases e:j=i
    ·subst e;omega
    ·exact hp' j (by omega)
   exact zll
  ·rw[QkM fun j hj=>hp' j (by omega)]
   exact zrr
theorem Qbg{t:QW}{l:List Int}(hp:t.parents.length<=1000000000)(hn:t.nodes.length<=1000000000)(hl:l.length<=1000000000):zAc 228 [Yy t,zL (intE l)] [.d (.b (Zl t l))] []:=by
 refine zAC func228 fun w0 Z=>?_
 repeat'(first|(refine zhm fun hb=>?_;try exact zab)|refine zUtp ?_|refine zg2 ?_ ?_|intro _|fail)
 refine Qa (fun(i:Nat)=>⟨25,[(2,.ptr 2 0),(7,zL (intE l)),(8,zI (l.length:Nat)),(9,zI i)],[(2,.box 43 (We t))]⟩) (fun i=>i<=l.length/\∀j,j<i->0<=nth l j/\nth l j<t.nodes.length) (fun i=>l.length-i) 0 (by exact⟨Xab _,fun j hj=>absurd hj (Xas _)⟩) ?_ ?_
 ·exact zll
 ·rintro i ⟨hi,hp'⟩
  have hnl:(Qz t.nodes).length=t.nodes.length:=Qr _
  repeat'(first|(refine zhm fun hb=>?_;try exact zab)|refine zUtp ?_|refine zg2 ?_ ?_|refine kc (Zb hp hn) rfl rfl ?_|intro _|fail)
  any_goals
   rw[QkK (j:=i) (by omega) (by omega)]
   refine zr [] ?_ ?_
   repeat'(first|exact ze3|refine ze2 ?_ ?_|refine ze4 ?_|exact ze5|fail)
   all_goals exact zp rfl
  ·refine⟨i+1,⟨by omega,fun j hj=>?_⟩,by omega,?_⟩
   ·by_cases e:j=i
    ·subst e;omega
    ·exact hp' j (by omega)
   exact zll
  ·rw[QkM fun j hj=>hp' j (by omega)]
   exact zrr
def ascP(l:List Int):Prop:=∀j,j+1<l.length->nth l j<nth l (j+1)
open Classical in
noncomputable def ascB (l:List Int):Bool:=decide (ascP l)
open Classical in
theorem Qo6{l:List Int}:ascB l=true↔ascP l:=by unfold ascB;exact decide_eq_true_iff
open Classical in
theorem QuY{l:List Int}:ascB l=false↔¬ascP l:=by unfold ascB;exact decide_eq_false_iff_not
theorem XH{l:List Int}(hl:l.length<=1000000000):zAc 193 [zL (intE l)] [.d (.b (ascB l))] []:=by
 refine zAC func193 fun w0 Z=>?_
 repeat'(first|(refine zhm fun hb=>?_;try exact zab)|refine Qe ?_|(apply zch;exact zcg)|exact zhk|refine zg3 ?_ ?_|intro _|fail)
 refine Qa (fun(i:Nat)=>⟨20,[(0,zL (intE l)),(3,zI i)],[]⟩) (fun i=>1<=i/\∀j,j+1<i->j+1<l.length->nth l j<nth l (j+1)) (fun i=>l.length-i) 1 (by exact⟨Xam _,fun j h1 h2=>by omega⟩) ?_ ?_
 ·exact zll
 ·rintro i ⟨hi,hp⟩
  repeat'(first|(refine zhm fun hb=>?_;try exact zab)|refine Qe ?_|(apply zch;exact zcg)|exact zhk|refine zg3 ?_ ?_|intro _|fail)
  ·rw[QuY.2 fun h=>by have:=h (i-1) (by omega);rw[show i-1+1=i by omega]at this;omega]
   exact zrr
  ·refine⟨i+1,⟨by omega,fun j h1 h2=>?_⟩,by omega,?_⟩
   ·by_cases e:j+1=i
    ·subst e;rw[show j+1-1=j by omega]at *;omega
    ·exact hp j (by omega) h2
   exact zll
  ·rw[Qo6.2 fun j hj=>hp j (by omega) hj]
   exact zrr
end
section
attribute [local irreducible] AWp QJ OpOk ACalls ChA QsOk MCalls EnC PY

noncomputable def pB (p:Prop):Bool:=@decide p (Classical.propDecidable p)
open Classical in
theorem pB_t{p:Prop}:pB p=true↔p:=by unfold pB;exact decide_eq_true_iff
open Classical in
theorem pB_f{p:Prop}:pB p=false↔¬p:=by unfold pB;exact decide_eq_false_iff_not
def Q2(t:QW)(n:Int):Nat:=(nth t.nodes n.toNat).leaf.toNat
def allU(t:QW)(l:List Int)(s:Nat):Bool:=l.all fun n=>hasI (abv t.parents (Q2 t n)) s
def lowU(t:QW)(l:List Int):Nat->Int
 | 0=>-1
 | s+1=>if allU t l s=true/\(lowU t l s<0\/lvl t.parents s<=lvl t.parents (lowU t l s).toNat)then s else lowU t l s
def lowI(t:QW)(l:List Int):Int:=lowU t l t.parents.length
theorem Qk6(t:QW)(l:List Int)(s:Nat):lowU t l (s+1)=if allU t l s=true/\(lowU t l s<0\/lvl t.parents s<=lvl t.parents (lowU t l s).toNat) then(s:Int)else lowU t l s:=rfl
theorem Qgp(t:QW)(l:List Int):∀(s:Nat),-1<=lowU t l s/\lowU t l s<s
 | 0=>by simp[lowU]
 | s+1=>by
  have:=Qgp t l s
  simp only[lowU]
  split
  ·omega
  ·omega
theorem QY.leaf{t:QW}(h:QY t){l:List Int}(hl:Jz t l){j:Nat}(hj:j<l.length):Q2 t (nth l j)<t.parents.length/\(nth t.nodes (nth l j).toNat).leaf=(Q2 t (nth l j):Int):=by
 have h1:=hl j hj
 have h2:=(h.nodes (nth l j).toNat (by omega)).1
 unfold Q2
 omega
theorem Qu6{t:QW}(h:QY t){l:List Int}(hl:Jz t l):lowU t l 1=0:=by
 rw[Qk6,if_pos]
 ·rfl
 ·refine⟨?_,.inl (by simp[lowU])⟩
  unfold allU
  rw[XaD]
  intro n hn
  obtain⟨j,hj,e⟩:=J1 hn
  have:=h.leaf hl hj
  rw[e]at this
  exact QrA h.valid _ this.1
theorem Qnq{t:QW}(h:QY t){l:List Int}(hl:Jz t l):∀(s:Nat),1<=s->0<=lowU t l s
 | 0,h=>by omega
 | s+1,h1=>by
  by_cases h0:s=0
  ·subst h0;rw[Qu6 h hl];decide
  ·have:=Qnq h hl s (by omega)
   simp only[lowU]
   split <;> omega
theorem QiW{t:QW}(h:QY t){l:List Int}(hl:Jz t l):0<=lowI t l/\lowI t l<t.parents.length:=
 ⟨Qnq h hl _ h.len.1,(Qgp t l _).2⟩
def allT(t:QW)(l:List Int)(s k:Nat):Bool:=(l.take k).all fun n=>hasI (abv t.parents (Q2 t n)) s
theorem Qkd{t:QW}{l:List Int}{s k:Nat}(h:k<l.length):allT t l s (k+1)=(allT t l s k&&hasI (abv t.parents (Q2 t (nth l k))) s):=by
 unfold allT
 rw[XbZ,List.getElem?_eq_getElem h,List.all_append,Ja h]
 simp
theorem QkX{t:QW}{l:List Int}{s k:Nat}(h:l.length<=k):allT t l s k=allU t l s:=by
 unfold allT allU
 rw[Xaz h]
theorem Vk{t:QW}{l:List Int}{s k:Nat}(hk:l.length<=k)(h:allT t l s k=true)(h2:lowU t l s<0\/lvl t.parents s<=lvl t.parents (lowU t l s).toNat):(s:Int)=lowU t l (s+1):=by
 rw[Qk6,if_pos ⟨by rw[<-QkX hk];exact h,h2⟩]
theorem Qcx{t:QW}{l:List Int}{s k:Nat}(hk:l.length<=k)(h:allT t l s k=false):lowU t l s=lowU t l (s+1):=by
 rw[Qk6,if_neg]
 rintro ⟨h1,_⟩
 rw[<-QkX hk,h]at h1
 cases h1
theorem Qcl{t:QW}{l:List Int}{s:Nat}(h1:0<=lowU t l s)(h:lvl t.parents (lowU t l s).toNat<lvl t.parents s):lowU t l s=lowU t l (s+1):=by
 rw[Qk6,if_neg]
 rintro ⟨_,h2⟩
 omega
theorem Qqo{t:QW}{l:List Int}(ht:QY t)(hl:Jz t l)(h0:0<l.length)(hll:l.length<=1000000000):zAc 195 [Yy t,zL (intE l)] [zI (lowI t l)] []:=by
 refine zAC func195 fun w0 Z=>?_
 have htl:=ht.len
 have htn:=ht.nlen
 have hc:=QeB (t:=t) (l:=l) (by omega) (by omega) hll
 rw[VQ.2 ⟨hl,ht⟩]at hc
 repeat'(first|(refine zhm fun hb=>?_;try exact zab)|refine Qe ?_|(apply zch;exact zcg)|exact zhk|refine zg3 ?_ ?_|intro _|fail)
 refine Qa (fun(s:Nat)=>⟨62,[(1,zL (intE l)),(2,.ptr 2 0),(5,zI (lowU t l s)),(21,zI (t.parents.length:Nat)),(22,zI s)],[(2,.box 43 (We t))]⟩) (fun s=>s<=t.parents.length) (fun s=>t.parents.length-s) 0 (by exact Xab _) ?_ ?_
 ·exact zll
 ·intro s hs
  by_cases hs':s<t.parents.length
  ·repeat'(first|(refine zhm fun hb=>?_;try exact zab)|refine Qe ?_|(apply zch;exact zcg)|exact zhk|refine zg3 ?_ ?_|intro _|fail)
   refine Qa (fun(k:Nat)=>⟨62,[(1,zL (intE l)),(2,.ptr 2 0),(5,zI (lowU t l s)),(6,zI s),(7,.d (.b (allT t l s k))),(21,zI (t.parents.length:Nat)),(22,zI s),(25,zL (intE l)),(26,zI (l.length:Nat)),(27,zI k)],[(2,.box 43 (We t))]⟩) (fun k=>k<=l.length) (fun k=>l.length-k) 0 (by exact Xab _) ?_ ?_
   ·exact zll
   ·intro k hk
    by_cases hk':k<l.length
    ·have hlf:=ht.leaf hl hk'
     have hin:=hl k hk'
     have hab:=QgA ht.valid hlf.1
     have hc2:=Qog (t:=t) (s:=Q2 t (nth l k)) (by omega) ht.valid hlf.1
     rw[<-hlf.2]at hc2
     repeat'(first|(apply QB 11;kernel_rfl;exact rfl)|(refine zhm fun hb=>?_;try exact zab)|refine Qe ?_|(apply zch;exact zcg)|exact zhk|refine zg3 ?_ ?_|refine kc (WM (l:=abv t.parents (Q2 t (nth l k))) (x:=(s:Int)) (by omega)) rfl rfl ?_|refine kq (WM (l:=abv t.parents (Q2 t (nth l k))) (x:=(s:Int)) (by omega)) rfl rfl ?_|intro _|fail)
     all_goals
      refine⟨k+1,by omega,by omega,?_⟩
      refine⟨rfl,?_,?_,rfl⟩
      repeat'(first|exact ze3|refine ze2 ?_ ?_|refine ze4 ?_|exact ze5|fail)
      all_goals exact zp (by first|rfl|(rw[Qkd hk'];simp only[*,Xbx,Xb7];done)|(rw[Qkd hk'];simp only[*,Xbx,Xb7];rfl))
    ·have hlu:=Qgp t l s
     have hl2:lowU t l s<0\/(lowU t l s).toNat<t.parents.length:=by omega
     have hl3:=Qfv ht hs'
     by_cases hneg:lowU t l s<0
     ·repeat'(first|(refine zhm fun hb=>?_;try exact zab)|refine Qe ?_|(apply zch;exact zcg)|exact zhk|refine zg3 ?_ ?_|intro _|fail)
      all_goals
       refine⟨s+1,by omega,by omega,?_⟩
       refine⟨rfl,?_,?_,rfl⟩
       repeat'(first|exact ze3|refine ze2 ?_ ?_|refine ze4 ?_|exact ze5|fail)
       all_goals exact zp (by first|rfl|exact Vk (k:=k) (by omega) (by assumption) (Or.inl (by omega))|exact Vk (k:=k) (by omega) (by assumption) (Or.inr (by assumption))|exact Qcx (k:=k) (by omega) (by assumption)|exact Qcl (by omega) (by omega))
     ·have hl4:=Qfv ht (s:=(lowU t l s).toNat) (by omega)
      rw[Xax (by omega)]at hl4
      repeat'(first|(refine zhm fun hb=>?_;try exact zab)|refine Qe ?_|(apply zch;exact zcg)|exact zhk|refine zg3 ?_ ?_|intro _|fail)
      all_goals
       refine⟨s+1,by omega,by omega,?_⟩
       refine⟨rfl,?_,?_,rfl⟩
       repeat'(first|exact ze3|refine ze2 ?_ ?_|refine ze4 ?_|exact ze5|fail)
       all_goals exact zp (by first|rfl|exact Vk (k:=k) (by omega) (by assumption) (Or.inl (by omega))|exact Vk (k:=k) (by omega) (by assumption) (Or.inr (by assumption))|exact Qcx (k:=k) (by omega) (by assumption)|exact Qcl (by omega) (by omega))
  ·repeat'(first|(refine zhm fun hb=>?_;try exact zab)|refine Qe ?_|(apply zch;exact zcg)|exact zhk|refine zg3 ?_ ?_|intro _|fail)
   have:s=t.parents.length:=by omega
   subst this
   exact zrr
theorem Qqv{t:QW}{l:List Int}(ht:QY t)(hl:Jz t l)(h0:0<l.length)(hll:l.length<=1000000000):zAc 175 [Yy t,zL (intE l)] [zI (lowI t l)] []:=by
 refine zAC func175 fun w0 Z=>?_
 have htl:=ht.len
 have htn:=ht.nlen
 have hc:=Qbg (t:=t) (l:=l) (by omega) (by omega) hll
 rw[VQ.2 ⟨hl,ht⟩]at hc
 repeat'(first|(refine zhm fun hb=>?_;try exact zab)|refine Qe ?_|(apply zch;exact zcg)|exact zhk|refine zg3 ?_ ?_|intro _|fail)
 refine Qa (fun(s:Nat)=>⟨61,[(1,zL (intE l)),(2,.ptr 2 0),(5,zI (lowU t l s)),(22,zI (t.parents.length:Nat)),(23,zI s)],[(2,.box 43 (We t))]⟩) (fun s=>s<=t.parents.length) (fun s=>t.parents.length-s) 0 (by exact Xab _) ?_ ?_
 ·exact zll
 ·intro s hs
  by_cases hs':s<t.parents.length
  ·repeat'(first|(refine zhm fun hb=>?_;try exact zab)|refine Qe ?_|(apply zch;exact zcg)|exact zhk|refine zg3 ?_ ?_|intro _|fail)
   refine Qa (fun(k:Nat)=>⟨61,[(1,zL (intE l)),(2,.ptr 2 0),(5,zI (lowU t l s)),(6,zI s),(7,.d (.b (allT t l s k))),(22,zI (t.parents.length:Nat)),(23,zI s),(26,zL (intE l)),(27,zI (l.length:Nat)),(28,zI k)],[(2,.box 43 (We t))]⟩) (fun k=>k<=l.length) (fun k=>l.length-k) 0 (by exact Xab _) ?_ ?_
   ·exact zll
   ·intro k hk
    by_cases hk':k<l.length
    ·have hlf:=ht.leaf hl hk'
     have hin:=hl k hk'
     have hab:=QgA ht.valid hlf.1
     have hc2:=QnT (t:=t) (s:=Q2 t (nth l k)) (by omega) ht.valid hlf.1
     rw[<-hlf.2]at hc2
     repeat'(first|(apply QB 11;kernel_rfl;exact rfl)|(refine zhm fun hb=>?_;try exact zab)|refine Qe ?_|(apply zch;exact zcg)|exact zhk|refine zg3 ?_ ?_|refine kc (Wp (l:=abv t.parents (Q2 t (nth l k))) (x:=(s:Int)) (by omega)) rfl rfl ?_|refine kq (Wp (l:=abv t.parents (Q2 t (nth l k))) (x:=(s:Int)) (by omega)) rfl rfl ?_|intro _|fail)
     all_goals
      refine⟨k+1,by omega,by omega,?_⟩
      refine⟨rfl,?_,?_,rfl⟩
      repeat'(first|exact ze3|refine ze2 ?_ ?_|refine ze4 ?_|exact ze5|fail)
      all_goals exact zp (by first|rfl|(rw[Qkd hk'];simp only[*,Xci,Bool.and_true];done)|(rw[Qkd hk'];simp only[*,Xci];rfl))
    ·have hlu:=Qgp t l s
     have hl2:lowU t l s<0\/(lowU t l s).toNat<t.parents.length:=by omega
     have hl3:=VN (by omega) ht.valid (t.parents.length-s) s (by omega) hs'
     rw[QkN ht.valid ht.even hs']at hl3
     by_cases hneg:lowU t l s<0
     ·repeat'(first|(refine zhm fun hb=>?_;try exact zab)|refine Qe ?_|(apply zch;exact zcg)|exact zhk|refine zg3 ?_ ?_|intro _|fail)
      all_goals
       refine⟨s+1,by omega,by omega,?_⟩
       refine⟨rfl,?_,?_,rfl⟩
       repeat'(first|exact ze3|refine ze2 ?_ ?_|refine ze4 ?_|exact ze5|fail)
       all_goals exact zp (by first|rfl|exact Vk (k:=k) (by omega) (by assumption) (Or.inl (by omega))|exact Vk (k:=k) (by omega) (by assumption) (Or.inr (by assumption))|exact Qcx (k:=k) (by omega) (by assumption)|exact Qcl (by omega) (by omega))
     ·have hl4:=VN (by omega) ht.valid (t.parents.length-(lowU t l s).toNat) (lowU t l s).toNat (by omega) (by omega)
      rw[QkN ht.valid ht.even (by omega),Xax (by omega)]at hl4
      repeat'(first|(refine zhm fun hb=>?_;try exact zab)|refine Qe ?_|(apply zch;exact zcg)|exact zhk|refine zg3 ?_ ?_|intro _|fail)
      all_goals
       refine⟨s+1,by omega,by omega,?_⟩
       refine⟨rfl,?_,?_,rfl⟩
       repeat'(first|exact ze3|refine ze2 ?_ ?_|refine ze4 ?_|exact ze5|fail)
       all_goals exact zp (by first|rfl|exact Vk (k:=k) (by omega) (by assumption) (Or.inl (by omega))|exact Vk (k:=k) (by omega) (by assumption) (Or.inr (by assumption))|exact Qcx (k:=k) (by omega) (by assumption)|exact Qcl (by omega) (by omega))
  ·repeat'(first|(refine zhm fun hb=>?_;try exact zab)|refine Qe ?_|(apply zch;exact zcg)|exact zhk|refine zg3 ?_ ?_|intro _|fail)
   have:s=t.parents.length:=by omega
   subst this
   exact zrr
end
end Go.Proofs.YtihgfennoalocaaGreat
