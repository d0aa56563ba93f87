/-
  Trees of switches: the reference's kids, level, TopoOk; the ways up; areNodes, both.
-/
import Derived.Test.YtelbahebpmkfjaaGreatKB7
import Derived.Test.YtelbahebpmkfjaaGreatKB8
set_option maxRecDepth 100000
set_option maxHeartbeats 16000000
namespace Go.Proofs.YtelbahebpmkfjaaGreat
open Go Go.RowKit
attribute [local irreducible] AWp Qat OpOk ACalls ChA QsOk MCalls EnC PY

def Qgz (ps:List Int) (s:Int) (n:Nat):List Int:=((List.range n).filter fun i=>decide (1≤i)&&decide (nth ps i=s)).map fun (i:Nat)=>(i:Int)
def Qfq (ps:List Int) (s:Int):List Int:=Qgz ps s ps.length
theorem QrB (ps:List Int) (s:Nat):Qfq ps (s:Int)=(Qee ps s).map fun (i:Nat)=>(i:Int):=rfl
theorem QqN {ps:List Int} {s:Int} {i:Nat} (h1:1≤i) (h:nth ps i=s):Qgz ps s (i+1)=Qgz ps s i++[(i:Int)]:=by
 unfold Qgz
 rw [List.range_succ,List.filter_append,List.map_append]
 simp [h1,h]
theorem Qto {ps:List Int} {s:Int} {i:Nat} (h:nth ps i≠s):Qgz ps s (i+1)=Qgz ps s i:=by
 unfold Qgz
 rw [List.range_succ,List.filter_append,List.map_append]
 simp [h]
theorem QhW (ps:List Int) (s:Int) (n:Nat):(Qgz ps s n).length≤n:=by
 unfold Qgz
 rw [List.length_map]
 exact Nat.le_trans (List.length_filter_le _ _) (by simp)
theorem Qbg (l:List Int) (x:Int):intE l++[[.n .i64 x]]=intE (l++[x]):=by simp [intE]
theorem QiS {ps:List Int} {s:Int}:Qfq ps s=[]↔QcQ ps s=true:=by
 rw [Qec,Qfq,Qgz,List.map_eq_nil_iff,List.filter_eq_nil_iff]
 constructor
 ·intro h j h1 h2 h3
  have:=h j (List.mem_range.2 h1)
  simp at this
  exact this h2 h3
 ·intro h j hj
  have hj':=List.mem_range.1 hj
  simp only [Bool.and_eq_true,decide_eq_true_eq]
  rintro ⟨h1,h2⟩
  exact h j hj' h1 h2
theorem Qq2 {ps:List Int} {s:Int} (h:0<(Qfq ps s).length):QcQ ps s=false:=by
 cases e:QcQ ps s with
 | false=>rfl
 | true=>rw [QiS.2 e] at h;exact absurd h (by decide)
theorem Qic {t:Topo} {s:Int} (h0:0<t.parents.length) (h:t.parents.length≤1000000000):ACalls Tryz.prog 251 [Qcw t,.d (.n .i64 s)] [.row 0] [(0,.row 3 (intE (Qfq t.parents s)) true)]:=by
 refine Qaa tt Tryz.func251 rfl rfl rfl (fun w0 Z=>?_)
 repeat' (first|refine zst ?_|(refine zhm fun hb=>?_;try exact zab)|refine zg2 ?_ ?_|refine zln fun _=>?_|refine zop ?_|fail)
 refine Qae (fun (i:Nat)=>⟨27,[(1,.d (.n .i64 s)),(2,.ptr 2 0),(5,.row 7),(6,.d (.n .i64 i))],[(2,.box 37 (QcU t)),(7,.row 3 (intE (Qgz t.parents s i)) true)]⟩) (fun i=>1≤i∧i≤t.parents.length) (fun i=>t.parents.length - i) 1 (by exact ⟨Nat.le_refl _,h0⟩) ?_ ?_
 ·exact ⟨rfl,zae,zae,rfl⟩
 ·rintro i ⟨h1,h2⟩
  have hlen:=QhW t.parents s i
  have hlen2:(intE (Qgz t.parents s i)).length=(Qgz t.parents s i).length:=Qad _
  repeat' (first|refine zst ?_|(refine zhm fun hb=>?_;try exact zab)|refine zg2 ?_ ?_|refine zln fun _=>?_|refine zop ?_|fail)
  ·refine ⟨i+1,⟨by omega,by omega⟩,by omega,?_⟩
   refine ⟨rfl,?_,?_,rfl⟩
   repeat'(first|apply And.intro|exact ze0|refine ze1 ?_|refine zei ?_ ?_|exact rfl|trivial)
   all_goals exact Stop.mk (by first|rfl|(rw [QqN h1 (by assumption)];exact Qbg _ _))
  ·refine ⟨i+1,⟨by omega,by omega⟩,by omega,?_⟩
   refine ⟨rfl,?_,?_,rfl⟩
   repeat'(first|apply And.intro|exact ze0|refine ze1 ?_|refine zei ?_ ?_|exact rfl|trivial)
   all_goals exact Stop.mk (by first|rfl|(rw [Qto (by assumption)]))
  ·have:i=t.parents.length:=by omega
   subst this
   exact zr [7] zae zae
theorem Qr6 {f:Nat→Int}:∀{ks:List Nat} {a:Option Int},(∀m,a=some m→0≤m)→-1≤lvGo f ks a
 | [],a,h=>by
  cases a with
  | none=>simp [lvGo]
  | some m=>have:=h m rfl;simp only [lvGo,Option.getD_some];omega
 | k::ks,a,h=>by
  simp only [lvGo]
  split
  ·omega
  ·rename_i hk
   exact Qr6 fun m hm=>by injection hm with hm;omega
theorem QxY {ps:List Int} (hv:QbF ps):∀(n s:Nat),ps.length - s≤n→s<ps.length→-1≤lv ps s∧lv ps s+s+1≤ps.length:=by
 intro n
 induction n with
 | zero=>intro s h1 h2;omega
 | succ n ih=>
  intro s h1 hs
  have h3 : -1≤lv ps s:=by rw [Qj6 hv hs];exact Qr6 fun m hm=>by cases hm
  refine ⟨h3,?_⟩
  by_cases h4:0≤lv ps s
  ·by_cases hk:Qee ps s=[]
   ·rw [Qj6 hv hs,hk]
    simp only [lvGo,Option.getD_none]
    omega
   ·obtain ⟨k,hk'⟩:=List.exists_mem_of_ne_nil _ hk
    have h5:=ih k (by have:=QgN hv hk';omega) (Qdg.1 hk').1
    have h6:=QgN hv hk'
    rw [Qj6 hv hs] at h4 ⊢
    have h7:=Qjq h4 k hk'
    omega
  ·omega
theorem Qs9 {l:List Nat} {i:Nat} (h:i<l.length):nth (l.map fun (k:Nat)=>(k:Int)) i=((nth l i:Nat):Int):=by
 rw [Qa8 (by simpa using h),Qa8 h]
 simp
theorem QdI {α:Type} [Inhabited α] {l:List α} {i:Nat} (h:i<l.length):l.drop i=nth l i::l.drop (i+1):=by
 rw [Qa8 h]
 exact List.drop_eq_getElem_cons h
theorem Qd4 {t:Topo} (h:t.parents.length≤1000000000) (hv:QbF t.parents):∀(n s:Nat),t.parents.length - s≤n→s<t.parents.length→ACalls Tryz.prog 183 [Qcw t,.d (.n .i64 s)] [.d (.n .i64 (lv t.parents s))] []:=by
 intro n
 induction n with
 | zero=>intro s h1 h2;omega
 | succ n ih=>
  intro s h1 hs
  refine Qaa tt Tryz.func183 rfl rfl rfl (fun w0 Z=>?_)
  have hkl:(Qfq t.parents (s:Int)).length≤t.parents.length:=QhW _ _ _
  have hkN:(Qfq t.parents (s:Int)).length=(Qee t.parents s).length:=by rw [QrB,List.length_map]
  repeat' (first|refine zst ?_|(refine zhm fun hb=>?_;try exact zab)|refine zg2 ?_ ?_|refine zln fun _=>?_|refine zop ?_|refine kc (Qic (by omega) h) rfl rfl ?_|fail)
  refine Qae (fun (x:Nat×Int)=>⟨36,[(2,.ptr 2 0),(5,.d (.n .i64 x.2)),(11,.row 11),(12,.d (.n .i64 ((Qfq t.parents (s:Int)).length:Nat))),(13,.d (.n .i64 x.1))],[(2,.box 37 (QcU t)),(11,.row 3 (intE (Qfq t.parents (s:Int))) true)]⟩) (fun x=>x.1≤(Qfq t.parents (s:Int)).length∧(-1≤x.2∧x.2≤1000000000)∧(x.1=0→x.2 = -1)∧lvGo (lv t.parents) ((Qee t.parents s).drop x.1) (if x.1=0 then none else some x.2)=lv t.parents s) (fun x=>(Qfq t.parents (s:Int)).length - x.1) (0,-1) (by exact ⟨Nat.zero_le _,by decide,fun _=>rfl,(Qj6 hv hs).symm⟩) ?_ ?_
  ·refine ⟨rfl,?_,?_,rfl⟩
   repeat'(first|apply And.intro|exact ze0|refine ze1 ?_|refine zei ?_ ?_|exact rfl|trivial)
   all_goals exact Stop.mk (by first|rfl|exact Qad _)
  ·rintro ⟨i,a⟩ ⟨g1,g2,g3,g4⟩
   dsimp only at g1 g2 g3 g4 ⊢
   by_cases hi:i<(Qfq t.parents (s:Int)).length
   ·have hi':i<(Qee t.parents s).length:=by omega
    have hk:nth (Qee t.parents s) i∈Qee t.parents s:=QaO hi'
    have hgt:=QgN hv hk
    have hlt:=(Qdg.1 hk).1
    have hc:=ih (nth (Qee t.parents s) i) (by omega) hlt
    have hb:=QxY hv (t.parents.length - nth (Qee t.parents s) i) (nth (Qee t.parents s) i) (by omega) hlt
    rw [←Qs9 hi',←QrB] at hc
    rw [QdI hi'] at g4
    simp only [lvGo] at g4
    repeat' (first|refine zst ?_|(refine zhm fun hb=>?_;try exact zab)|refine zg2 ?_ ?_|refine zln fun _=>?_|refine zop ?_|refine kc (hc) rfl rfl ?_|fail)
    ·rw [if_pos (.inl (by assumption))] at g4
     rw [←g4]
     exact zr [] zae zae
    ·rw [if_pos (.inr ⟨by rw [if_neg (by omega)];rfl,by rw [if_neg (by omega)];assumption⟩)] at g4
     rw [←g4]
     exact zr [] zae zae
    ·refine ⟨(i+1,lv t.parents (nth (Qee t.parents s) i)),⟨by dsimp only;omega,by dsimp only;omega,fun h=>by dsimp only at h;omega,?_⟩,by dsimp only;omega,?_⟩
     ·rw [if_neg (not_or.2 ⟨by omega,fun e=>by rw [if_neg (by omega)] at e;exact e.2 (by assumption)⟩)] at g4
      exact g4
     exact ⟨rfl,zae,zae,rfl⟩
    ·refine ⟨(i+1,lv t.parents (nth (Qee t.parents s) i)),⟨by dsimp only;omega,by dsimp only;omega,fun h=>by dsimp only at h;omega,?_⟩,by dsimp only;omega,?_⟩
     ·have h0:i=0:=by omega
      rw [if_pos h0,if_neg (not_or.2 ⟨by omega,fun e=>by cases e.1⟩)] at g4
      exact g4
     exact ⟨rfl,zae,zae,rfl⟩
   ·repeat' (first|refine zst ?_|(refine zhm fun hb=>?_;try exact zab)|refine zg2 ?_ ?_|refine zln fun _=>?_|refine zop ?_|fail)
    rw [List.drop_eq_nil_of_le (by omega)] at g4
    have g5:a+1=lv t.parents s:=by
     rw [←g4]
     by_cases h0:i=0
     ·rw [g3 h0,h0];rfl
     ·rw [if_neg h0];rfl
    rw [←g5]
    exact zr [] zae zae
theorem Qe1 {t:Topo} (hp:t.parents.length≤1000000000) (hn:t.nodes.length≤1000000000):ACalls Tryz.prog 276 [Qcw t] [.d (.b (Qbl t))] []:=by
 refine Qaa tt Tryz.func276 rfl rfl rfl (fun w0 Z=>?_)
 repeat' (first|refine zst ?_|(refine zhm fun hb=>?_;try exact zab)|refine zg2 ?_ ?_|refine zln fun _=>?_|refine zop ?_|fail)
 any_goals
  rw [show Qbl t=false from Qdy.2 fun h=>by have h1:=h.len;have h2:=h.zero;have h3:=h.nlen;omega]
  refine zr [] ?_ ?_
  repeat'(first|apply And.intro|exact ze0|refine ze1 ?_|refine zei ?_ ?_|exact rfl|trivial)
  all_goals exact Stop.mk rfl
 refine Qae (fun (i:Nat)=>⟨87,[(1,.ptr 1 0),(3,.d (.n .i64 i))],[(1,.box 37 (QcU t))]⟩) (fun i=>1≤i∧∀j,1≤j→j<i→j<t.parents.length→0≤nth t.parents j∧nth t.parents j<j) (fun i=>t.parents.length - i) 1 (by exact ⟨Nat.le_refl _,fun j h1 h2=>by omega⟩) ?_ ?_
 ·exact ⟨rfl,zae,zae,rfl⟩
 ·rintro i ⟨hi,hv⟩
  repeat' (first|refine zst ?_|(refine zhm fun hb=>?_;try exact zab)|refine zg2 ?_ ?_|refine zln fun _=>?_|refine zop ?_|fail)
  any_goals
   rw [show Qbl t=false from Qdy.2 fun h=>by have h1:=h.valid i (by omega) (by omega);omega]
   refine zr [] ?_ ?_
   repeat'(first|apply And.intro|exact ze0|refine ze1 ?_|refine zei ?_ ?_|exact rfl|trivial)
   all_goals exact Stop.mk rfl
  ·refine ⟨i+1,⟨by omega,fun j h1 h2 h3=>?_⟩,by omega,?_⟩
   ·by_cases e:j=i
    ·subst e;omega
    ·exact hv j h1 (by omega) h3
   exact ⟨rfl,zae,zae,rfl⟩
  ·have hvp:QbF t.parents:=fun j h1 h2=>hv j h1 (by omega) h2
   refine Qae (fun (i:Nat)=>⟨87,[(1,.ptr 1 0),(52,.d (.sl (QaD t.nodes))),(53,.d (.n .i64 (t.nodes.length:Nat))),(54,.d (.n .i64 i))],[(1,.box 37 (QcU t))]⟩) (fun i=>i≤t.nodes.length∧∀j,j<i→Qm0 t.parents (nth t.nodes j)) (fun i=>t.nodes.length - i) 0 (by exact ⟨Nat.zero_le _,fun s h=>absurd h (Nat.not_lt_zero _)⟩) ?_ ?_
   ·refine ⟨rfl,?_,?_,rfl⟩
    repeat'(first|apply And.intro|exact ze0|refine ze1 ?_|refine zei ?_ ?_|exact rfl|trivial)
    all_goals exact Stop.mk (by first|rfl|exact Qar _)
   ·rintro i ⟨hi,hno⟩
    have hkl:(Qfq t.parents (nth t.nodes i).leaf).length≤t.parents.length:=QhW _ _ _
    repeat' (first|refine zst ?_|(refine zhm fun hb=>?_;try exact zab)|refine zg2 ?_ ?_|refine zln fun _=>?_|refine zop ?_|refine kc (Qic (t:=t) (s:=(nth t.nodes i).leaf) (by omega) hp) rfl rfl ?_|refine kc (Qb8 (v:=(nth t.nodes i).cap)) rfl rfl ?_|refine kc (Qd4 hp hvp t.parents.length 0 (by omega) (by omega)) rfl rfl ?_|fail)
    any_goals
     rw [show Qbl t=false from Qdy.2 fun h=>by have h1:=h.nodes i (by omega);have h2:=h1.1;first|omega|(have h3:=h1.2.1;have h4:=Qq2 (ps:=t.parents) (s:=(nth t.nodes i).leaf) (by omega);rw [h3] at h4;cases h4;done)|(have h3:=h1.2.2;simp_all;done)]
     refine zr [] ?_ ?_
     repeat'(first|apply And.intro|exact ze0|refine ze1 ?_|refine zei ?_ ?_|exact rfl|trivial)
     all_goals exact Stop.mk rfl
    ·refine ⟨i+1,⟨by omega,fun j hj=>?_⟩,by omega,?_⟩
     ·by_cases e:j=i
      ·subst e;exact ⟨by omega,QiS.1 (List.length_eq_zero_iff.1 (by omega)),by assumption⟩
      ·exact hno j (by omega)
     exact ⟨rfl,zae,zae,rfl⟩
    ·rw [show Qbl t=decide (0≤lv t.parents 0) from ?_]
     ·exact zr [] zae zae
     ·rw [Bool.eq_iff_iff,Qbz,decide_eq_true_eq,Qv3 hvp (by omega)]
      exact ⟨fun h=>h.even,fun h=>⟨by omega,by omega,by omega,hvp,h,fun j hj=>hno j (by omega)⟩⟩
end Go.Proofs.YtelbahebpmkfjaaGreat
namespace Go.Proofs.YtelbahebpmkfjaaGreat
open Go Go.RowKit
attribute [local irreducible] AWp Qat OpOk ACalls ChA QsOk MCalls EnC PY

def abvT (ps:List Int):Nat→Nat→List Int
 | 0,_=>[]
 | f+1,s=>if s=0 then [] else ((nth ps s).toNat:Int)::abvT ps f (nth ps s).toNat
def abvU (ps:List Int) (s:Nat):List Int:=abvT ps s s
def abv (ps:List Int) (s:Nat):List Int:=(s:Int)::abvU ps s
theorem QwM {ps:List Int} (hv:QbF ps):∀(s f:Nat),s≤f→s<ps.length→abvT ps f s=abvU ps s:=by
 intro s
 induction s using Nat.strongRecOn with
 | _ s ih=>
  intro f hf hs
  cases s with
  | zero=>
   cases f with
   | zero=>rfl
   | succ f=>rfl
  | succ s=>
   cases f with
   | zero=>omega
   | succ f=>
    have hp:=hv (s+1) (by omega) hs
    unfold abvU
    rw [abvT,abvT,if_neg (by omega),if_neg (by omega),ih _ (by omega) f (by omega) (by omega),ih _ (by omega) s (by omega) (by omega)]
theorem QqD (ps:List Int):abvU ps 0=[]:=rfl
theorem Qlg {ps:List Int} (hv:QbF ps) {s:Nat} (h0:0<s) (hs:s<ps.length):abvU ps s=((nth ps s).toNat:Int)::abvU ps (nth ps s).toNat:=by
 have hp:=hv s (by omega) hs
 obtain ⟨k,rfl⟩:∃k,s=k+1:=⟨s - 1,by omega⟩
 conv=>lhs;unfold abvU
 rw [abvT,if_neg (by omega),QwM hv _ _ (by omega) (by omega)]
theorem QtI {ps:List Int} (hv:QbF ps):∀(s:Nat),s<ps.length→(abvU ps s).length≤s:=by
 intro s
 induction s using Nat.strongRecOn with
 | _ s ih=>
  intro hs
  by_cases h0:s=0
  ·subst h0;exact Nat.le_refl _
  ·have hp:=hv s (by omega) hs
   rw [Qlg hv (by omega) hs,List.length_cons]
   have:=ih (nth ps s).toNat (by omega) (by omega)
   omega
theorem Qkf {ps:List Int} (hv:QbF ps) {s:Nat} (hs:s<ps.length):(abv ps s).length≤ps.length:=by
 have:=QtI hv s hs
 simp only [abv,List.length_cons]
 omega
theorem Qud {ps:List Int} (hv:QbF ps):∀(s:Nat),s<ps.length→hasI (abv ps s) 0=true:=by
 intro s
 induction s using Nat.strongRecOn with
 | _ s ih=>
  intro hs
  by_cases h0:s=0
  ·subst h0;rfl
  ·have hp:=hv s (by omega) hs
   have:=ih (nth ps s).toNat (by omega) (by omega)
   unfold hasI abv at this ⊢
   rw [List.any_cons,Qlg hv (by omega) hs,this,Bool.or_true]
theorem QqR {t:Topo} {s:Nat} (h:t.parents.length≤1000000000) (hv:QbF t.parents) (hs:s<t.parents.length):ACalls Tryz.prog 259 [Qcw t,.d (.n .i64 s)] [.row 0] [(0,.row 3 (intE (abv t.parents s)) true)]:=by
 refine Qaa tt Tryz.func259 rfl rfl rfl (fun w0 Z=>?_)
 repeat' (first|refine zst ?_|(refine zhm fun hb=>?_;try exact zab)|refine zg2 ?_ ?_|refine zop ?_|fail)
 refine Qae (fun (x:Nat×List Int)=>⟨20,[(1,.d (.n .i64 x.1)),(2,.ptr 2 0),(5,.row 7)],[(2,.box 37 (QcU t)),(7,.row 3 (intE x.2) true)]⟩) (fun x=>(x.1<t.parents.length∧x.2.length+x.1≤s+1)∧x.2++abvU t.parents x.1=abv t.parents s) (fun x=>x.1) (s,[(s:Int)]) (by exact ⟨⟨hs,by dsimp only [List.length_cons,List.length_nil];omega⟩,rfl⟩) ?_ ?_
 ·exact ⟨rfl,zae,zae,rfl⟩
 ·rintro ⟨i,l⟩ ⟨⟨h1,h2⟩,h3⟩
  dsimp only at h1 h2 h3 ⊢
  have hlen2:(intE l).length=l.length:=Qad _
  repeat' (first|refine zst ?_|(refine zhm fun hb=>?_;try exact zab)|refine zg2 ?_ ?_|refine zop ?_|fail)
  ·have hp:=hv i (by omega) h1
   refine ⟨((nth t.parents i).toNat,l++[((nth t.parents i).toNat:Int)]),⟨⟨by dsimp only;omega,by dsimp only;rw [List.length_append];simp only [List.length_cons,List.length_nil];omega⟩,?_⟩,by dsimp only;omega,?_⟩
   ·dsimp only
    rw [←h3,Qlg hv (by omega) h1,List.append_assoc]
    rfl
   refine ⟨rfl,?_,?_,rfl⟩
   repeat'(first|apply And.intro|exact ze0|refine ze1 ?_|refine zei ?_ ?_|exact rfl|trivial)
   all_goals exact Stop.mk (by first|rfl|omega|(rw [Int.toNat_of_nonneg (by omega)];exact Qbg _ _))
  ·have:i=0:=by omega
   subst this
   rw [QqD,List.append_nil] at h3
   rw [←h3]
   exact zr [7] zae zae
theorem Qr0 {t:Topo} {s:Nat} (h:t.parents.length≤1000000000) (hv:QbF t.parents) (hs:s<t.parents.length):ACalls Tryz.prog 253 [Qcw t,.d (.n .i64 s)] [.row 0] [(0,.row 3 (intE (abv t.parents s)) true)]:=by
 refine Qaa tt Tryz.func253 rfl rfl rfl (fun w0 Z=>?_)
 repeat' (first|refine zst ?_|(refine zhm fun hb=>?_;try exact zab)|refine zg2 ?_ ?_|refine zop ?_|fail)
 refine Qae (fun (x:Nat×List Int)=>⟨20,[(1,.d (.n .i64 x.1)),(2,.ptr 2 0),(5,.row 7)],[(2,.box 37 (QcU t)),(7,.row 3 (intE x.2) true)]⟩) (fun x=>(x.1<t.parents.length∧x.2.length+x.1≤s+1)∧x.2++abvU t.parents x.1=abv t.parents s) (fun x=>x.1) (s,[(s:Int)]) (by exact ⟨⟨hs,by dsimp only [List.length_cons,List.length_nil];omega⟩,rfl⟩) ?_ ?_
 ·exact ⟨rfl,zae,zae,rfl⟩
 ·rintro ⟨i,l⟩ ⟨⟨h1,h2⟩,h3⟩
  dsimp only at h1 h2 h3 ⊢
  have hlen2:(intE l).length=l.length:=Qad _
  repeat' (first|refine zst ?_|(refine zhm fun hb=>?_;try exact zab)|refine zg2 ?_ ?_|refine zop ?_|fail)
  ·have hp:=hv i (by omega) h1
   refine ⟨((nth t.parents i).toNat,l++[((nth t.parents i).toNat:Int)]),⟨⟨by dsimp only;omega,by dsimp only;rw [List.length_append];simp only [List.length_cons,List.length_nil];omega⟩,?_⟩,by dsimp only;omega,?_⟩
   ·dsimp only
    rw [←h3,Qlg hv (by omega) h1,List.append_assoc]
    rfl
   refine ⟨rfl,?_,?_,rfl⟩
   repeat'(first|apply And.intro|exact ze0|refine ze1 ?_|refine zei ?_ ?_|exact rfl|trivial)
   all_goals exact Stop.mk (by first|rfl|omega|(rw [Int.toNat_of_nonneg (by omega)];exact Qbg _ _))
  ·have:i=0:=by omega
   subst this
   rw [QqD,List.append_nil] at h3
   rw [←h3]
   exact zr [7] zae zae
def Qbj (t:Topo) (l:List Int):Prop:=∀j,j<l.length→0≤nth l j∧nth l j<t.nodes.length
open Classical in
noncomputable def Qet (t:Topo) (l:List Int):Bool:=decide (Qbj t l)&&Qbl t
open Classical in
theorem Qod {t:Topo} {l:List Int} (h:Qbj t l):Qet t l=Qbl t:=by
 unfold Qet
 rw [decide_eq_true h]
 rfl
open Classical in
theorem Qnw {t:Topo} {l:List Int} {j:Nat} (hj:j<l.length) (h:¬(0≤nth l j∧nth l j<t.nodes.length)):Qet t l=false:=by
 unfold Qet
 rw [decide_eq_false (fun h'=>h (h' j hj))]
 rfl
open Classical in
theorem Qd0 {t:Topo} {l:List Int}:Qet t l=true↔Qbj t l∧TopoOk t:=by
 unfold Qet
 rw [Bool.and_eq_true,decide_eq_true_eq,Qbz]
theorem Qje {t:Topo} {l:List Int} (hp:t.parents.length≤1000000000) (hn:t.nodes.length≤1000000000) (hl:l.length≤1000000000):ACalls Tryz.prog 258 [Qcw t,.d (.sl (intE l))] [.d (.b (Qet t l))] []:=by
 refine Qaa tt Tryz.func258 rfl rfl rfl (fun w0 Z=>?_)
 repeat' (first|refine zst ?_|(refine zhm fun hb=>?_;try exact zab)|refine zg2 ?_ ?_|refine zln fun _=>?_|refine zop ?_|fail)
 refine Qae (fun (i:Nat)=>⟨23,[(2,.ptr 2 0),(7,.d (.sl (intE l))),(8,.d (.n .i64 (l.length:Nat))),(9,.d (.n .i64 i))],[(2,.box 37 (QcU t))]⟩) (fun i=>i≤l.length∧∀j,j<i→0≤nth l j∧nth l j<t.nodes.length) (fun i=>l.length - i) 0 (by exact ⟨Nat.zero_le _,fun j hj=>absurd hj (Nat.not_lt_zero _)⟩) ?_ ?_
 ·refine ⟨rfl,?_,?_,rfl⟩
  repeat'(first|apply And.intro|exact ze0|refine ze1 ?_|refine zei ?_ ?_|exact rfl|trivial)
  all_goals exact Stop.mk (by first|rfl|exact Qad _)
 ·rintro i ⟨hi,hp'⟩
  have hnl:(QaD t.nodes).length=t.nodes.length:=Qar _
  repeat' (first|refine zst ?_|(refine zhm fun hb=>?_;try exact zab)|refine zg2 ?_ ?_|refine zln fun _=>?_|refine zop ?_|refine kc (QaX) rfl rfl ?_|refine kc (Qhu hp hn) rfl rfl ?_|fail)
  ·rw [Qnw (j:=i) (by omega) (by omega)]
   exact zr [] zae zae
  ·refine ⟨i+1,⟨by omega,fun j hj=>?_⟩,by omega,?_⟩
   ·by_cases e:j=i
    ·subst e;omega
    ·exact hp' j (by omega)
   exact ⟨rfl,zae,zae,rfl⟩
  ·rw [Qod fun j hj=>hp' j (by omega)]
   exact zr [] zae zae
theorem Qg4 {t:Topo} {l:List Int} (hp:t.parents.length≤1000000000) (hn:t.nodes.length≤1000000000) (hl:l.length≤1000000000):ACalls Tryz.prog 252 [Qcw t,.d (.sl (intE l))] [.d (.b (Qet t l))] []:=by
 refine Qaa tt Tryz.func252 rfl rfl rfl (fun w0 Z=>?_)
 repeat' (first|refine zst ?_|(refine zhm fun hb=>?_;try exact zab)|refine zg2 ?_ ?_|refine zln fun _=>?_|refine zop ?_|fail)
 refine Qae (fun (i:Nat)=>⟨25,[(2,.ptr 2 0),(7,.d (.sl (intE l))),(8,.d (.n .i64 (l.length:Nat))),(9,.d (.n .i64 i))],[(2,.box 37 (QcU t))]⟩) (fun i=>i≤l.length∧∀j,j<i→0≤nth l j∧nth l j<t.nodes.length) (fun i=>l.length - i) 0 (by exact ⟨Nat.zero_le _,fun j hj=>absurd hj (Nat.not_lt_zero _)⟩) ?_ ?_
 ·refine ⟨rfl,?_,?_,rfl⟩
  repeat'(first|apply And.intro|exact ze0|refine ze1 ?_|refine zei ?_ ?_|exact rfl|trivial)
  all_goals exact Stop.mk (by first|rfl|exact Qad _)
 ·rintro i ⟨hi,hp'⟩
  have hnl:(QaD t.nodes).length=t.nodes.length:=Qar _
  repeat' (first|refine zst ?_|(refine zhm fun hb=>?_;try exact zab)|refine zg2 ?_ ?_|refine zln fun _=>?_|refine zop ?_|refine kc (Qe1 hp hn) rfl rfl ?_|fail)
  any_goals
   rw [Qnw (j:=i) (by omega) (by omega)]
   refine zr [] ?_ ?_
   repeat'(first|apply And.intro|exact ze0|refine ze1 ?_|refine zei ?_ ?_|exact rfl|trivial)
   all_goals exact Stop.mk rfl
  ·refine ⟨i+1,⟨by omega,fun j hj=>?_⟩,by omega,?_⟩
   ·by_cases e:j=i
    ·subst e;omega
    ·exact hp' j (by omega)
   exact ⟨rfl,zae,zae,rfl⟩
  ·rw [Qod fun j hj=>hp' j (by omega)]
   exact zr [] zae zae
def ascP (l:List Int):Prop:=∀j,j+1<l.length→nth l j<nth l (j+1)
open Classical in
noncomputable def ascB (l:List Int):Bool:=decide (ascP l)
open Classical in
theorem QpS {l:List Int}:ascB l=true↔ascP l:=by unfold ascB;exact decide_eq_true_iff
open Classical in
theorem Qw9 {l:List Int}:ascB l=false↔¬ascP l:=by unfold ascB;exact decide_eq_false_iff_not
theorem Qfr {l:List Int} (hl:l.length≤1000000000):ACalls Tryz.prog 189 [.d (.sl (intE l))] [.d (.b (ascB l))] []:=by
 refine Qaa tt Tryz.func189 rfl rfl rfl (fun w0 Z=>?_)
 repeat' (first|refine zst ?_|(refine zhm fun hb=>?_;try exact zab)|refine zdr ?_|(apply zch;exact zcg)|refine HopS.mk fun w0 Z O=>?_|exact zhk|refine zg3 ?_ ?_|refine zln fun _=>?_|refine zop ?_|fail)
 refine Qae (fun (i:Nat)=>⟨20,[(0,.d (.sl (intE l))),(3,.d (.n .i64 i))],[]⟩) (fun i=>1≤i∧∀j,j+1<i→j+1<l.length→nth l j<nth l (j+1)) (fun i=>l.length - i) 1 (by exact ⟨Nat.le_refl _,fun j h1 h2=>by omega⟩) ?_ ?_
 ·exact ⟨rfl,zae,zae,rfl⟩
 ·rintro i ⟨hi,hp⟩
  repeat' (first|refine zst ?_|(refine zhm fun hb=>?_;try exact zab)|refine zdr ?_|(apply zch;exact zcg)|refine HopS.mk fun w0 Z O=>?_|exact zhk|refine zg3 ?_ ?_|refine zln fun _=>?_|refine zop ?_|fail)
  ·rw [Qw9.2 fun h=>by have:=h (i - 1) (by omega);rw [show i - 1+1=i by omega] at this;omega]
   exact zr [] zae zae
  ·refine ⟨i+1,⟨by omega,fun j h1 h2=>?_⟩,by omega,?_⟩
   ·by_cases e:j+1=i
    ·subst e;rw [show j+1 - 1=j by omega] at *;omega
    ·exact hp j (by omega) h2
   exact ⟨rfl,zae,zae,rfl⟩
  ·rw [QpS.2 fun j hj=>hp j (by omega) hj]
   exact zr [] zae zae
end Go.Proofs.YtelbahebpmkfjaaGreat
namespace Go.Proofs.YtelbahebpmkfjaaGreat
open Go Go.RowKit
attribute [local irreducible] AWp Qat OpOk ACalls ChA QsOk MCalls EnC PY

noncomputable def pB (p:Prop):Bool:=@decide p (Classical.propDecidable p)
open Classical in
theorem pB_t {p:Prop}:pB p=true↔p:=by unfold pB;exact decide_eq_true_iff
open Classical in
theorem pB_f {p:Prop}:pB p=false↔¬p:=by unfold pB;exact decide_eq_false_iff_not
def QaY (t:Topo) (n:Int):Nat:=(nth t.nodes n.toNat).leaf.toNat
def allU (t:Topo) (l:List Int) (s:Nat):Bool:=l.all fun n=>hasI (abv t.parents (QaY t n)) s
def lowU (t:Topo) (l:List Int):Nat→Int
 | 0=>-1
 | s+1=>if allU t l s=true∧(lowU t l s<0∨lvl t.parents s≤lvl t.parents (lowU t l s).toNat) then s else lowU t l s
def lowI (t:Topo) (l:List Int):Int:=lowU t l t.parents.length
theorem QnS (t:Topo) (l:List Int) (s:Nat):lowU t l (s+1)=if allU t l s=true∧(lowU t l s<0∨lvl t.parents s≤lvl t.parents (lowU t l s).toNat) then (s:Int) else lowU t l s:=rfl
theorem Qks (t:Topo) (l:List Int):∀(s:Nat),-1≤lowU t l s∧lowU t l s<s
 | 0=>by simp [lowU]
 | s+1=>by
  have:=Qks t l s
  simp only [lowU]
  split
  ·omega
  ·omega
theorem TopoOk.leaf {t:Topo} (h:TopoOk t) {l:List Int} (hl:Qbj t l) {j:Nat} (hj:j<l.length):QaY t (nth l j)<t.parents.length∧(nth t.nodes (nth l j).toNat).leaf=(QaY t (nth l j):Int):=by
 have h1:=hl j hj
 have h2:=(h.nodes (nth l j).toNat (by omega)).1
 unfold QaY
 omega
theorem Qxq {t:Topo} (h:TopoOk t) {l:List Int} (hl:Qbj t l):lowU t l 1=0:=by
 rw [QnS,if_pos]
 ·rfl
 ·refine ⟨?_,.inl (by simp [lowU])⟩
  unfold allU
  rw [List.all_eq_true]
  intro n hn
  obtain ⟨j,hj,e⟩:=QbB hn
  have:=h.leaf hl hj
  rw [e] at this
  exact Qud h.valid _ this.1
theorem QrM {t:Topo} (h:TopoOk t) {l:List Int} (hl:Qbj t l):∀(s:Nat),1≤s→0≤lowU t l s
 | 0,h=>by omega
 | s+1,h1=>by
  by_cases h0:s=0
  ·subst h0;rw [Qxq h hl];decide
  ·have:=QrM h hl s (by omega)
   simp only [lowU]
   split <;> omega
theorem Qni {t:Topo} (h:TopoOk t) {l:List Int} (hl:Qbj t l):0≤lowI t l∧lowI t l<t.parents.length:=
 ⟨QrM h hl _ h.len.1,(Qks t l _).2⟩
def allT (t:Topo) (l:List Int) (s k:Nat):Bool:=(l.take k).all fun n=>hasI (abv t.parents (QaY t n)) s
theorem QnR {t:Topo} {l:List Int} {s k:Nat} (h:k<l.length):allT t l s (k+1)=(allT t l s k&&hasI (abv t.parents (QaY t (nth l k))) s):=by
 unfold allT
 rw [List.take_add_one,List.getElem?_eq_getElem h,List.all_append,Qa8 h]
 simp
theorem Qos {t:Topo} {l:List Int} {s k:Nat} (h:l.length≤k):allT t l s k=allU t l s:=by
 unfold allT allU
 rw [List.take_of_length_le h]
theorem QdH {t:Topo} {l:List Int} {s k:Nat} (hk:l.length≤k) (h:allT t l s k=true) (h2:lowU t l s<0∨lvl t.parents s≤lvl t.parents (lowU t l s).toNat):(s:Int)=lowU t l (s+1):=by
 rw [QnS,if_pos ⟨by rw [←Qos hk];exact h,h2⟩]
theorem QhE {t:Topo} {l:List Int} {s k:Nat} (hk:l.length≤k) (h:allT t l s k=false):lowU t l s=lowU t l (s+1):=by
 rw [QnS,if_neg]
 rintro ⟨h1,_⟩
 rw [←Qos hk,h] at h1
 cases h1
theorem QhC {t:Topo} {l:List Int} {s:Nat} (h1:0≤lowU t l s) (h:lvl t.parents (lowU t l s).toNat<lvl t.parents s):lowU t l s=lowU t l (s+1):=by
 rw [QnS,if_neg]
 rintro ⟨_,h2⟩
 omega
theorem Qug {t:Topo} {l:List Int} (ht:TopoOk t) (hl:Qbj t l) (h0:0<l.length) (hll:l.length≤1000000000):ACalls Tryz.prog 191 [Qcw t,.d (.sl (intE l))] [.d (.n .i64 (lowI t l))] []:=by
 refine Qaa tt Tryz.func191 rfl rfl rfl (fun w0 Z=>?_)
 have htl:=ht.len
 have htn:=ht.nlen
 have hc:=Qje (t:=t) (l:=l) (by omega) (by omega) hll
 rw [Qd0.2 ⟨hl,ht⟩] at hc
 repeat' (first|refine zst ?_|(refine zhm fun hb=>?_;try exact zab)|refine zdr ?_|(apply zch;exact zcg)|refine HopS.mk fun w0 Z O=>?_|exact zhk|refine zg3 ?_ ?_|refine zln fun _=>?_|refine zop ?_|refine kc (hc) rfl rfl ?_|refine kq (hc) rfl rfl ?_|fail)
 refine Qae (fun (s:Nat)=>⟨62,[(1,.d (.sl (intE l))),(2,.ptr 2 0),(5,.d (.n .i64 (lowU t l s))),(21,.d (.n .i64 (t.parents.length:Nat))),(22,.d (.n .i64 s))],[(2,.box 37 (QcU t))]⟩) (fun s=>s≤t.parents.length) (fun s=>t.parents.length - s) 0 (by exact Nat.zero_le _) ?_ ?_
 ·refine ⟨rfl,?_,?_,rfl⟩
  repeat'(first|apply And.intro|exact ze0|refine ze1 ?_|refine zei ?_ ?_|exact rfl|trivial)
  all_goals exact Stop.mk (by first|rfl|exact Qad _)
 ·intro s hs
  by_cases hs':s<t.parents.length
  ·repeat' (first|refine zst ?_|(refine zhm fun hb=>?_;try exact zab)|refine zdr ?_|(apply zch;exact zcg)|refine HopS.mk fun w0 Z O=>?_|exact zhk|refine zg3 ?_ ?_|refine zln fun _=>?_|refine zop ?_|fail)
   refine Qae (fun (k:Nat)=>⟨62,[(1,.d (.sl (intE l))),(2,.ptr 2 0),(5,.d (.n .i64 (lowU t l s))),(6,.d (.n .i64 s)),(7,.d (.b (allT t l s k))),(21,.d (.n .i64 (t.parents.length:Nat))),(22,.d (.n .i64 s)),(25,.d (.sl (intE l))),(26,.d (.n .i64 (l.length:Nat))),(27,.d (.n .i64 k))],[(2,.box 37 (QcU t))]⟩) (fun k=>k≤l.length) (fun k=>l.length - k) 0 (by exact Nat.zero_le _) ?_ ?_
   ·refine ⟨rfl,?_,?_,rfl⟩
    repeat'(first|apply And.intro|exact ze0|refine ze1 ?_|refine zei ?_ ?_|exact rfl|trivial)
    all_goals exact Stop.mk (by first|rfl|exact Qad _)
   ·intro k hk
    by_cases hk':k<l.length
    ·have hlf:=ht.leaf hl hk'
     have hin:=hl k hk'
     have hab:=Qkf ht.valid hlf.1
     have hc2:=QqR (t:=t) (s:=QaY t (nth l k)) (by omega) ht.valid hlf.1
     rw [←hlf.2] at hc2
     repeat' (first|refine zst ?_|(refine zhm fun hb=>?_;try exact zab)|(apply QaT 11;kernel_rfl;exact rfl)|refine zdr ?_|(apply zch;exact zcg)|refine HopS.mk fun w0 Z O=>?_|exact zhk|refine zg3 ?_ ?_|refine zln fun _=>?_|refine zop ?_|refine kc (hc2) rfl rfl ?_|refine kc (Qdk (l:=abv t.parents (QaY t (nth l k))) (x:=(s:Int)) (by omega)) rfl rfl ?_|refine kq (hc2) rfl rfl ?_|refine kq (Qdk (l:=abv t.parents (QaY t (nth l k))) (x:=(s:Int)) (by omega)) rfl rfl ?_|fail)
     all_goals
      refine ⟨k+1,by omega,by omega,?_⟩
      refine ⟨rfl,?_,?_,rfl⟩
      repeat'(first|apply And.intro|exact ze0|refine ze1 ?_|refine zei ?_ ?_|exact rfl|trivial)
      all_goals exact Stop.mk (by first|rfl|(rw [QnR hk'];simp only [*,Bool.true_and,Bool.false_and];done)|(rw [QnR hk'];simp only [*,Bool.true_and,Bool.false_and];rfl))
    ·have hlu:=Qks t l s
     have hl2:lowU t l s<0∨(lowU t l s).toNat<t.parents.length:=by omega
     have hl3:=Qkj ht hs'
     by_cases hneg:lowU t l s<0
     ·repeat' (first|refine zst ?_|(refine zhm fun hb=>?_;try exact zab)|refine zdr ?_|(apply zch;exact zcg)|refine HopS.mk fun w0 Z O=>?_|exact zhk|refine zg3 ?_ ?_|refine zln fun _=>?_|refine zop ?_|refine kc (hl3) rfl rfl ?_|refine kq (hl3) rfl rfl ?_|fail)
      all_goals
       refine ⟨s+1,by omega,by omega,?_⟩
       refine ⟨rfl,?_,?_,rfl⟩
       repeat'(first|apply And.intro|exact ze0|refine ze1 ?_|refine zei ?_ ?_|exact rfl|trivial)
       all_goals exact Stop.mk (by first|rfl|exact QdH (k:=k) (by omega) (by assumption) (Or.inl (by omega))|exact QdH (k:=k) (by omega) (by assumption) (Or.inr (by assumption))|exact QhE (k:=k) (by omega) (by assumption)|exact QhC (by omega) (by omega))
     ·have hl4:=Qkj ht (s:=(lowU t l s).toNat) (by omega)
      rw [Int.toNat_of_nonneg (by omega)] at hl4
      repeat' (first|refine zst ?_|(refine zhm fun hb=>?_;try exact zab)|refine zdr ?_|(apply zch;exact zcg)|refine HopS.mk fun w0 Z O=>?_|exact zhk|refine zg3 ?_ ?_|refine zln fun _=>?_|refine zop ?_|refine kc (hl3) rfl rfl ?_|refine kc (hl4) rfl rfl ?_|refine kq (hl3) rfl rfl ?_|refine kq (hl4) rfl rfl ?_|fail)
      all_goals
       refine ⟨s+1,by omega,by omega,?_⟩
       refine ⟨rfl,?_,?_,rfl⟩
       repeat'(first|apply And.intro|exact ze0|refine ze1 ?_|refine zei ?_ ?_|exact rfl|trivial)
       all_goals exact Stop.mk (by first|rfl|exact QdH (k:=k) (by omega) (by assumption) (Or.inl (by omega))|exact QdH (k:=k) (by omega) (by assumption) (Or.inr (by assumption))|exact QhE (k:=k) (by omega) (by assumption)|exact QhC (by omega) (by omega))
  ·repeat' (first|refine zst ?_|(refine zhm fun hb=>?_;try exact zab)|refine zdr ?_|(apply zch;exact zcg)|refine HopS.mk fun w0 Z O=>?_|exact zhk|refine zg3 ?_ ?_|refine zln fun _=>?_|refine zop ?_|fail)
   have:s=t.parents.length:=by omega
   subst this
   exact zr [] zae zae
theorem Qth {t:Topo} {l:List Int} (ht:TopoOk t) (hl:Qbj t l) (h0:0<l.length) (hll:l.length≤1000000000):ACalls Tryz.prog 184 [Qcw t,.d (.sl (intE l))] [.d (.n .i64 (lowI t l))] []:=by
 refine Qaa tt Tryz.func184 rfl rfl rfl (fun w0 Z=>?_)
 have htl:=ht.len
 have htn:=ht.nlen
 have hc:=Qg4 (t:=t) (l:=l) (by omega) (by omega) hll
 rw [Qd0.2 ⟨hl,ht⟩] at hc
 repeat' (first|refine zst ?_|(refine zhm fun hb=>?_;try exact zab)|refine zdr ?_|(apply zch;exact zcg)|refine HopS.mk fun w0 Z O=>?_|exact zhk|refine zg3 ?_ ?_|refine zln fun _=>?_|refine zop ?_|refine kc (hc) rfl rfl ?_|refine kq (hc) rfl rfl ?_|fail)
 refine Qae (fun (s:Nat)=>⟨61,[(1,.d (.sl (intE l))),(2,.ptr 2 0),(5,.d (.n .i64 (lowU t l s))),(22,.d (.n .i64 (t.parents.length:Nat))),(23,.d (.n .i64 s))],[(2,.box 37 (QcU t))]⟩) (fun s=>s≤t.parents.length) (fun s=>t.parents.length - s) 0 (by exact Nat.zero_le _) ?_ ?_
 ·refine ⟨rfl,?_,?_,rfl⟩
  repeat'(first|apply And.intro|exact ze0|refine ze1 ?_|refine zei ?_ ?_|exact rfl|trivial)
  all_goals exact Stop.mk (by first|rfl|exact Qad _)
 ·intro s hs
  by_cases hs':s<t.parents.length
  ·repeat' (first|refine zst ?_|(refine zhm fun hb=>?_;try exact zab)|refine zdr ?_|(apply zch;exact zcg)|refine HopS.mk fun w0 Z O=>?_|exact zhk|refine zg3 ?_ ?_|refine zln fun _=>?_|refine zop ?_|fail)
   refine Qae (fun (k:Nat)=>⟨61,[(1,.d (.sl (intE l))),(2,.ptr 2 0),(5,.d (.n .i64 (lowU t l s))),(6,.d (.n .i64 s)),(7,.d (.b (allT t l s k))),(22,.d (.n .i64 (t.parents.length:Nat))),(23,.d (.n .i64 s)),(26,.d (.sl (intE l))),(27,.d (.n .i64 (l.length:Nat))),(28,.d (.n .i64 k))],[(2,.box 37 (QcU t))]⟩) (fun k=>k≤l.length) (fun k=>l.length - k) 0 (by exact Nat.zero_le _) ?_ ?_
   ·refine ⟨rfl,?_,?_,rfl⟩
    repeat'(first|apply And.intro|exact ze0|refine ze1 ?_|refine zei ?_ ?_|exact rfl|trivial)
    all_goals exact Stop.mk (by first|rfl|exact Qad _)
   ·intro k hk
    by_cases hk':k<l.length
    ·have hlf:=ht.leaf hl hk'
     have hin:=hl k hk'
     have hab:=Qkf ht.valid hlf.1
     have hc2:=Qr0 (t:=t) (s:=QaY t (nth l k)) (by omega) ht.valid hlf.1
     rw [←hlf.2] at hc2
     repeat' (first|refine zst ?_|(refine zhm fun hb=>?_;try exact zab)|(apply QaT 11;kernel_rfl;exact rfl)|refine zdr ?_|(apply zch;exact zcg)|refine HopS.mk fun w0 Z O=>?_|exact zhk|refine zg3 ?_ ?_|refine zln fun _=>?_|refine zop ?_|refine kc (hc2) rfl rfl ?_|refine kc (Qc4 (l:=abv t.parents (QaY t (nth l k))) (x:=(s:Int)) (by omega)) rfl rfl ?_|refine kq (hc2) rfl rfl ?_|refine kq (Qc4 (l:=abv t.parents (QaY t (nth l k))) (x:=(s:Int)) (by omega)) rfl rfl ?_|fail)
     all_goals
      refine ⟨k+1,by omega,by omega,?_⟩
      refine ⟨rfl,?_,?_,rfl⟩
      repeat'(first|apply And.intro|exact ze0|refine ze1 ?_|refine zei ?_ ?_|exact rfl|trivial)
      all_goals exact Stop.mk (by first|rfl|(rw [QnR hk'];simp only [*,Bool.and_false,Bool.and_true];done)|(rw [QnR hk'];simp only [*,Bool.and_false];rfl))
    ·have hlu:=Qks t l s
     have hl2:lowU t l s<0∨(lowU t l s).toNat<t.parents.length:=by omega
     have hl3:=Qd4 (by omega) ht.valid (t.parents.length - s) s (by omega) hs'
     rw [QoM ht.valid ht.even hs'] at hl3
     by_cases hneg:lowU t l s<0
     ·repeat' (first|refine zst ?_|(refine zhm fun hb=>?_;try exact zab)|refine zdr ?_|(apply zch;exact zcg)|refine HopS.mk fun w0 Z O=>?_|exact zhk|refine zg3 ?_ ?_|refine zln fun _=>?_|refine zop ?_|refine kc (hl3) rfl rfl ?_|refine kq (hl3) rfl rfl ?_|fail)
      all_goals
       refine ⟨s+1,by omega,by omega,?_⟩
       refine ⟨rfl,?_,?_,rfl⟩
       repeat'(first|apply And.intro|exact ze0|refine ze1 ?_|refine zei ?_ ?_|exact rfl|trivial)
       all_goals exact Stop.mk (by first|rfl|exact QdH (k:=k) (by omega) (by assumption) (Or.inl (by omega))|exact QdH (k:=k) (by omega) (by assumption) (Or.inr (by assumption))|exact QhE (k:=k) (by omega) (by assumption)|exact QhC (by omega) (by omega))
     ·have hl4:=Qd4 (by omega) ht.valid (t.parents.length - (lowU t l s).toNat) (lowU t l s).toNat (by omega) (by omega)
      rw [QoM ht.valid ht.even (by omega),Int.toNat_of_nonneg (by omega)] at hl4
      repeat' (first|refine zst ?_|(refine zhm fun hb=>?_;try exact zab)|refine zdr ?_|(apply zch;exact zcg)|refine HopS.mk fun w0 Z O=>?_|exact zhk|refine zg3 ?_ ?_|refine zln fun _=>?_|refine zop ?_|refine kc (hl3) rfl rfl ?_|refine kc (hl4) rfl rfl ?_|refine kq (hl3) rfl rfl ?_|refine kq (hl4) rfl rfl ?_|fail)
      all_goals
       refine ⟨s+1,by omega,by omega,?_⟩
       refine ⟨rfl,?_,?_,rfl⟩
       repeat'(first|apply And.intro|exact ze0|refine ze1 ?_|refine zei ?_ ?_|exact rfl|trivial)
       all_goals exact Stop.mk (by first|rfl|exact QdH (k:=k) (by omega) (by assumption) (Or.inl (by omega))|exact QdH (k:=k) (by omega) (by assumption) (Or.inr (by assumption))|exact QhE (k:=k) (by omega) (by assumption)|exact QhC (by omega) (by omega))
  ·repeat' (first|refine zst ?_|(refine zhm fun hb=>?_;try exact zab)|refine zdr ?_|(apply zch;exact zcg)|refine HopS.mk fun w0 Z O=>?_|exact zhk|refine zg3 ?_ ?_|refine zln fun _=>?_|refine zop ?_|fail)
   have:s=t.parents.length:=by omega
   subst this
   exact zr [] zae zae
end Go.Proofs.YtelbahebpmkfjaaGreat
