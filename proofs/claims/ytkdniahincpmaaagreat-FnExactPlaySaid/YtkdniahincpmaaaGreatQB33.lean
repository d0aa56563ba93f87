/-
  The journal's bytes: ReadRecords, both.
-/
import Derived.Test.YtkdniahincpmaaaGreatQB32
import Derived.Test.YtkdniahincpmaaaGreatQB34
set_option maxRecDepth 100000
set_option maxHeartbeats 16000000
namespace Go.Proofs.YtkdniahincpmaaaGreat
open Go Go.RowKit Tryz
section
attribute [local irreducible] AWp QM OpOk ACalls ChA QsOk MCalls EnC PY
abbrev nlAt(b:List UInt8)(i:Nat):Prop:=((nth b i).toNat:Int)=10
def eolF(b:List UInt8):Nat->Nat->Nat
 | 0,i=>i
 | f+1,i=>if nlAt b i then i else eolF b f (i+1)
def eol(b:List UInt8)(i:Nat):Nat:=eolF b (b.length-i) i
theorem Xp{b:List UInt8}{i:Nat}(hi:i<b.length)(h:nlAt b i):eol b i=i:=by
 unfold eol
 obtain⟨f,hf⟩:∃f,b.length-i=f+1:=⟨b.length-i-1,by omega⟩
 rw[hf,eolF,if_pos h]
theorem V4{b:List UInt8}{i:Nat}(hi:i<b.length)(h:¬nlAt b i):eol b i=eol b (i+1):=by
 unfold eol
 obtain⟨f,hf⟩:∃f,b.length-i=f+1:=⟨b.length-i-1,by omega⟩
 rw[hf,eolF,if_neg h,show b.length-(i+1)=f by omega]
theorem Qaw{b:List UInt8}:eol b b.length=b.length:=by
 unfold eol
 rw[Xb4,eolF]
theorem QlB(b:List UInt8):∀(k i:Nat),i+k=b.length->i<=eol b i/\eol b i<=b.length/\(eol b i<b.length->nlAt b (eol b i))
 | 0,i,h=>by
  obtain rfl:i=b.length:=by omega
  rw[Qaw]
  exact⟨Xaj _,Xaj _,fun h=>by omega⟩
 | k+1,i,h=>by
  by_cases hn:nlAt b i
  ·rw[Xp (by omega) hn]
   exact⟨Xaj _,by omega,fun _=>hn⟩
  ·rw[V4 (by omega) hn]
   have:=QlB b k (i+1) (by omega)
   exact⟨by omega,this.2⟩
theorem QfM{b:List UInt8}{i:Nat}(h:i<=b.length):i<=eol b i/\eol b i<=b.length/\(eol b i<b.length->nlAt b (eol b i)):=QlB b (b.length-i) i (by omega)
abbrev hdT(n:Nat):List UInt8:=Q1 n++[32]
theorem QoZ(n:Nat):(hdT n).length<=11:=by
 have:=Qx n
 simp[hdT];omega
abbrev subB(b:List UInt8)(i j:Nat):List UInt8:=(b.take j).drop i
theorem QdI{b:List UInt8}(h:b.length<=1000000000)(i j:Nat):(subB b i j).length<=1000000000:=by
 simp only[XaP,Xah];omega
abbrev RdSt:=List (List UInt8)×Nat
def rdOk(b:List UInt8)(x:RdSt):Prop:=eol b x.2<b.length/\(hdT x.1.length).length<=eol b x.2-x.2/\subB b x.2 (x.2+(hdT x.1.length).length)=hdT x.1.length/\Y0 (subB b (x.2+(hdT x.1.length).length) (eol b x.2))=true
instance (b:List UInt8) (x:RdSt):Decidable (rdOk b x):=by unfold rdOk;infer_instance
def Ya(b:List UInt8)(x:RdSt):RdSt:=(x.1++[subB b (x.2+(hdT x.1.length).length) (eol b x.2)],eol b x.2+1)
def rdF(b:List UInt8):Nat->RdSt->RdSt
 | 0,x=>x
 | f+1,x=>if rdOk b x then rdF b f (Ya b x)else x
def Ja(b:List UInt8):RdSt:=rdF b (b.length+1) ([],0)
def rdAt(b:List UInt8)(x:RdSt):Prop:=x.2<=b.length/\x.1.length<=x.2/\∃f,b.length<f+x.2/\rdF b f x=Ja b
theorem QjB(b:List UInt8):rdAt b ([],0):=⟨Xae _,Xaj _,b.length+1,by simp,rfl⟩
theorem XV{b:List UInt8}{x:RdSt}(h:rdAt b x)(hk:rdOk b x):rdAt b (Ya b x):=by
 obtain⟨c,h2,f,h3,a⟩:=h
 have he:=QfM c
 have k1:=hk.1
 have k2:=hk.2.1
 cases f with
 | zero=>omega
 | succ f=>
  rw[rdF,if_pos hk]at a
  refine⟨by simp only[Ya];omega,by simp only[Ya,Xab,XaF];omega,f,by simp only[Ya];omega,a⟩
theorem Qav{b:List UInt8}{x:RdSt}(h:rdAt b x)(hk:¬rdOk b x):Ja b=x:=by
 obtain⟨h1,h2,f,h3,a⟩:=h
 cases f with
 | zero=>omega
 | succ f=>rw[rdF,if_neg hk]at a;exact a.symm
theorem Qa2{b:List UInt8}{x:RdSt}(h:rdAt b x)(he:eol b x.2=b.length):Ja b=x:=Qav h (fun hk=>by have:=hk.1;omega)
theorem Vk{b:List UInt8}(h:b.length<=1000000000):zAc 44 [zL (QC b)] [.row 0,zI (Ja b).2] [(0,.row 9 (strE (Ja b).1) true)]:=by
 refine zAC func44 fun w0 Z=>?_
 repeat'(first|(refine zhm fun hb=>?_;try exact zab)|refine zUtp ?_|refine zg2 ?_ ?_|intro _)
 refine Qa (fun(x:RdSt)=>⟨77,[(0,zL (QC b)),(4,.row 10),(5,zI x.2),(6,zI x.2)],[(10,.row 9 (strE x.1) true)]⟩) (rdAt b) (fun x=>b.length-x.2) ([],0) (QjB b) ?_ ?_
 ·refine⟨rfl,?_,?_,rfl⟩
  repeat'(first|exact ze3|refine ze2 ?_ ?_|refine ze4 ?_|exact ze5|fail)
  all_goals exact zp rfl
 ·intro x d
  have f:=d.1
  have o:=d.2.1
  have he:=QfM f
  repeat'(first|(refine zhm fun hb=>?_;try exact zab)|refine zUtp ?_|refine zg2 ?_ ?_|intro _)
  ·refine Qa (fun(i:Nat)=>⟨77,[(0,zL (QC b)),(4,.row 10),(5,zI x.2),(6,zI x.2),(7,zI i)],[(10,.row 9 (strE x.1) true)]⟩) (fun i=>x.2<=i/\i<=b.length/\eol b i=eol b x.2) (fun i=>b.length-i) x.2 (by exact⟨by omega,f,rfl⟩) ?_ ?_
   ·refine⟨rfl,?_,?_,rfl⟩
    repeat'(first|exact ze3|refine ze2 ?_ ?_|refine ze4 ?_|exact ze5|fail)
    all_goals exact zp rfl
   ·rintro i ⟨l,m,e⟩
    have j:=QoZ x.1.length
    have n:=Qx x.1.length
    have k:(Q1 (x.1.length:Int)++({ data:=#[32] }:ByteArray).data.toList).length=(hdT x.1.length).length:=rfl
    have a:nlAt b i->i<b.length->eol b x.2=i:=fun hn j=>by rw[<-e];exact Xp j hn
    repeat'(first|(refine zhm fun hb=>?_;try exact zab)|refine zUtp ?_|refine zg2 ?_ ?_|refine zqj VO ?_|refine kc (Qb9 (QdI h _ _)) rfl rfl ?_|intro _)
    ·refine⟨i+1,⟨by omega,by omega,by rw[<-e];exact(V4 (by omega) (by assumption)).symm⟩,by omega,?_⟩
     refine⟨rfl,?_,?_,rfl⟩
     repeat'(first|exact ze3|refine ze2 ?_ ?_|refine ze4 ?_|exact ze5|fail)
     all_goals exact zp rfl
    ·have a:=a (by assumption) (by omega)
     have c:=Qav d fun hk=>by have:=hk.2.1;omega
     rw[c]
     refine zr [10] ?_ ?_
     repeat'(first|exact ze3|refine ze2 ?_ ?_|refine ze4 ?_|exact ze5|fail)
     all_goals exact zp rfl
    ·have a:=a (by assumption) (by omega)
     have c:=Qav d fun hk=>by have:=hk.2.2.1;contradiction
     rw[c]
     refine zr [10] ?_ ?_
     repeat'(first|exact ze3|refine ze2 ?_ ?_|refine ze4 ?_|exact ze5|fail)
     all_goals exact zp rfl
    ·have a:=a (by assumption) (by omega)
     have c:=Qav d fun hk=>by have:=hk.2.2.2;rw[a]at this;exact Bool.noConfusion (Eq.trans (Eq.symm this) (by assumption:Y0 (subB b (x.2+(hdT x.1.length).length) i)=false))
     rw[c]
     refine zr [10] ?_ ?_
     repeat'(first|exact ze3|refine ze2 ?_ ?_|refine ze4 ?_|exact ze5|fail)
     all_goals exact zp rfl
    ·have a:=a (by assumption) (by omega)
     have g:rdOk b x:=⟨by omega,by omega,by assumption,by rw[a];assumption⟩
     refine⟨Ya b x,XV d g,by simp only[Ya];omega,?_⟩
     refine⟨rfl,?_,?_,rfl⟩
     repeat'(first|exact ze3|refine ze2 ?_ ?_|refine ze4 ?_|exact ze5|fail)
     all_goals exact zp (by simp only[Ya,a,<-ZA])
    ·have c:=Qa2 d (by rw[<-e,show i=b.length by omega,Qaw])
     rw[c]
     refine zr [10] ?_ ?_
     repeat'(first|exact ze3|refine ze2 ?_ ?_|refine ze4 ?_|exact ze5|fail)
     all_goals exact zp rfl
  ·have c:=Qa2 d (by rw[show x.2=b.length by omega,Qaw])
   rw[c]
   refine zr [10] ?_ ?_
   repeat'(first|exact ze3|refine ze2 ?_ ?_|refine ze4 ?_|exact ze5|fail)
   all_goals exact zp rfl
theorem ZQ{n:Nat}{s:List UInt8}(h:s.length<=1000000000):zAc 36 [zI n,.d (.s s)] [.d (.s (hdT n++s++[10]))] []:=by
 refine zAC func36 fun w0 Z=>?_
 have c:=Qx n
 repeat'(first|(refine zhm fun hb=>?_;try exact zab)|refine zUto ?_|refine zg2 ?_ ?_|refine zqj ZB ?_|intro _)
 refine zr [] ?_ ?_
 repeat'(first|exact ze3|refine ze2 ?_ ?_|refine ze4 ?_|exact ze5|fail)
 all_goals exact zp rfl
def QvB(b:List UInt8)(i:Nat):Int:=if eol b i<b.length then((eol b i+1:Nat):Int)else -1
theorem QeH{b:List UInt8}{i:Nat}(h:eol b i<b.length):QvB b i=((eol b i+1:Nat):Int):=if_pos h
theorem Qg4{b:List UInt8}{i:Nat}(h:¬eol b i<b.length):QvB b i = -1:=if_neg h
theorem Qbe{b:List UInt8}{at':Nat}{x:Int}(h:b.length<=1000000000)(ha:at'<=b.length)(hx:QvB b at'=x):zAc 309 [zL (QC b),zI at'] [zI x] []:=by
 subst hx
 refine zAC func309 fun w0 Z=>?_
 repeat'(first|(refine zhm fun hb=>?_;try exact zab)|refine zUtp ?_|refine zg2 ?_ ?_|intro _)
 refine Qa (fun(i:Nat)=>⟨20,[(0,zL (QC b)),(5,zI i)],[]⟩) (fun i=>at'<=i/\i<=b.length/\eol b i=eol b at') (fun i=>b.length-i) at' (by exact⟨Xaj _,ha,rfl⟩) ?_ ?_
 ·refine⟨rfl,?_,?_,rfl⟩
  repeat'(first|exact ze3|refine ze2 ?_ ?_|refine ze4 ?_|exact ze5|fail)
  all_goals exact zp rfl
 ·rintro i ⟨d,e,a⟩
  repeat'(first|(refine zhm fun hb=>?_;try exact zab)|refine zUtp ?_|refine zg2 ?_ ?_|intro _)
  ·have c:eol b at'=i:=by rw[<-a];exact Xp (by omega) (by assumption)
   rw[QeH (by omega),c]
   refine zr [] ?_ ?_
   repeat'(first|exact ze3|refine ze2 ?_ ?_|refine ze4 ?_|exact ze5|fail)
   all_goals exact zp rfl
  ·refine⟨i+1,⟨by omega,by omega,by rw[<-a];exact(V4 (by omega) (by assumption)).symm⟩,by omega,?_⟩
   refine⟨rfl,?_,?_,rfl⟩
   repeat'(first|exact ze3|refine ze2 ?_ ?_|refine ze4 ?_|exact ze5|fail)
   all_goals exact zp rfl
  ·have c:eol b at'=b.length:=by rw[<-a,show i=b.length by omega,Qaw]
   rw[Qg4 (by omega)]
   refine zr [] ?_ ?_
   repeat'(first|exact ze3|refine ze2 ?_ ?_|refine ze4 ?_|exact ze5|fail)
   all_goals exact zp rfl
theorem QrU{b:List UInt8}{i k e:Nat}(h1:i+k<=e)(h2:e<b.length):subB b i (e+1)=subB b i (i+k)++subB b (i+k) e++[nth b e]:=by
 have d:b[e]=nth b e:=by rw[nth,List.getD_eq_getElem?_getD,List.getElem?_eq_getElem h2];rfl
 rw[<-d]
 unfold subB
 rw[XaA h2,XbJ (by rw[Xah];omega)]
 congr 1
 have a:b.take (i+k)=(b.take e).take (i+k):=by rw[XcD,Xcz h1]
 rw[a]
 have c:(b.take e).length=e:=by rw[Xah];omega
 generalize b.take e=t at c
 have:=XaK k (t.drop i)
 rw[Xca,List.take_drop]at this
 exact this.symm
theorem Ql2{b:List UInt8}{i e:Nat}{hd:List UInt8}(h1:i+hd.length<=e)(h2:e<b.length)(hn:nlAt b e):hd++subB b (i+hd.length) e++[10]=subB b i (e+1)↔subB b i (i+hd.length)=hd:=by
 have a:nth b e=10:=by
  apply UInt8.toNat_inj.1
  have:((nth b e).toNat:Int)=10:=hn
  have c:(10:UInt8).toNat=10:=rfl
  omega
 rw[QrU h1 h2,a]
 constructor
 ·intro h
  have c:=List.append_cancel_right h
  exact(List.append_cancel_right c).symm
 ·intro h
  rw[h]
theorem ZU{b:List UInt8}(h:b.length<=1000000000):zAc 280 [zL (QC b)] [.row 0,zI (Ja b).2] [(0,.row 9 (strE (Ja b).1) true)]:=by
 refine zAC func280 fun w0 Z=>?_
 repeat'(first|(refine zhm fun hb=>?_;try exact zab)|refine Qd ?_|(apply zch;exact zcg)|exact zhk|refine zg3 ?_ ?_|intro _)
 refine Qa (fun(x:RdSt)=>⟨60,[(0,zL (QC b)),(4,.row 9),(5,zI x.2)],[(9,.row 9 (strE x.1) true)]⟩) (rdAt b) (fun x=>b.length-x.2) ([],0) (QjB b) ?_ ?_
 ·refine⟨rfl,?_,?_,rfl⟩
  repeat'(first|exact ze3|refine ze2 ?_ ?_|refine ze4 ?_|exact ze5|fail)
  all_goals exact zp rfl
 ·intro x f
  have c:=f.1
  have p:=f.2.1
  have k:=QfM c
  have hl:=QoZ x.1.length
  have o:=Qx x.1.length
  have a:(hdT x.1.length).length=(Q1 (x.1.length:Int)).length+1:=by simp[hdT]
  by_cases d:eol b x.2<b.length
  ·repeat'(first|(refine zhm fun hb=>?_;try exact zab)|refine Qd ?_|(apply zch;exact zcg)|exact zhk|refine zg3 ?_ ?_|refine kc (Qbe h c (QeH d)) rfl rfl ?_|refine zqd ZB ?_|refine kc (Zv (QdI h _ _)) rfl rfl ?_|refine kc (ZQ (QdI h _ _)) rfl rfl ?_|refine kq (Qbe h c (QeH d)) rfl rfl ?_|refine kq (Zv (QdI h _ _)) rfl rfl ?_|refine kq (ZQ (QdI h _ _)) rfl rfl ?_|intro _)
   ·have e:=Qav f fun hk=>by have:=hk.2.1;omega
    rw[e]
    refine zr [9] ?_ ?_
    repeat'(first|exact ze3|refine ze2 ?_ ?_|refine ze4 ?_|exact ze5|fail)
    all_goals exact zp rfl
   ·have e:=Qav f fun hk=>by have g:=hk.2.2.2;rw[a]at g;exact Bool.noConfusion (Eq.trans (Eq.symm g) hb)
    rw[e]
    refine zr [9] ?_ ?_
    repeat'(first|exact ze3|refine ze2 ?_ ?_|refine ze4 ?_|exact ze5|fail)
    all_goals exact zp rfl
   ·have e:=Qav f fun hk=>by have g:=(Ql2 (hd:=hdT x.1.length) (by omega) d (k.2.2 d)).2 hk.2.2.1;rw[a]at g;exact hb g
    rw[e]
    refine zr [9] ?_ ?_
    repeat'(first|exact ze3|refine ze2 ?_ ?_|refine ze4 ?_|exact ze5|fail)
    all_goals exact zp rfl
   ·rename_i l m n
    have i:rdOk b x:=⟨d,by omega,(Ql2 (hd:=hdT x.1.length) (by omega) d (k.2.2 d)).1 (by rw[a];assumption),by rw[a];assumption⟩
    refine⟨Ya b x,XV f i,by simp only[Ya];omega,?_⟩
    refine⟨rfl,?_,?_,rfl⟩
    repeat'(first|exact ze3|refine ze2 ?_ ?_|refine ze4 ?_|exact ze5|fail)
    ·exact zp rfl
    ·exact zp (by rw[ZA];simp only[Ya,a,Xb1])
  ·repeat'(first|(refine zhm fun hb=>?_;try exact zab)|refine Qd ?_|(apply zch;exact zcg)|exact zhk|refine zg3 ?_ ?_|refine kc (Qbe h c (Qg4 d)) rfl rfl ?_|refine zqd ZB ?_|refine kq (Qbe h c (Qg4 d)) rfl rfl ?_|intro _)
   have e:=Qa2 f (by omega)
   rw[e]
   refine zr [9] ?_ ?_
   repeat'(first|exact ze3|refine ze2 ?_ ?_|refine ze4 ?_|exact ze5|fail)
   all_goals exact zp rfl
def jnOk(j:QU):Bool:=decide ((j.bytes.length:Int)<=40000)&&inB j.synced 0 j.bytes.length&&decide (((Ja j.bytes).2:Int)=j.bytes.length)&&decide (((Ja j.bytes).1.length:Int)=j.count)
theorem QeS{j:QU}(h:j.bytes.length<=1000000000):zAc 49 [jnA j] [.d (.b (jnOk j))] []:=by
 refine zAC func49 fun w0 Z=>?_
 repeat'(first|(refine zhm fun hb=>?_;try exact zab)|refine zUtp ?_|refine zg2 ?_ ?_|refine zqj Q5 ?_|refine kc (Vk (b:=j.bytes) h) rfl rfl ?_|intro _)
 all_goals
  refine zr [] ?_ ?_
  repeat'(first|exact ze3|refine ze2 ?_ ?_|refine ze4 ?_|exact ze5|fail)
  refine zp ?_
  first
   | done
   | (rw[Bool.eq_iff_iff];simp[jnOk,inB]at *;omega)
   | (rw[Bool.eq_iff_iff];simp[jnOk,inB]at *;done)
   | (rw[Bool.eq_iff_iff];simp[jnOk,inB]at *;simp[*];done)
   | (rw[Bool.eq_iff_iff];simp[jnOk,inB]at *;simp[*];omega)
   | (rw[Bool.eq_iff_iff];simp[jnOk,inB]at *;simp[*];intros;omega)
theorem VL{j:QU}(h:j.bytes.length<=1000000000):zAc 238 [jnA j] [.d (.b (jnOk j))] []:=by
 refine zAC func238 fun w0 Z=>?_
 repeat'(first|(refine zhm fun hb=>?_;try exact zab)|refine zUtp ?_|refine zg2 ?_ ?_|refine kc (ZU (b:=j.bytes) h) rfl rfl ?_|intro _)
 all_goals
  refine zr [] ?_ ?_
  repeat'(first|exact ze3|refine ze2 ?_ ?_|refine ze4 ?_|exact ze5|fail)
  refine zp ?_
  first
   | done
   | (rw[Bool.eq_iff_iff];simp[jnOk,inB]at *;omega)
   | (rw[Bool.eq_iff_iff];simp[jnOk,inB]at *;done)
   | (rw[Bool.eq_iff_iff];simp[jnOk,inB]at *;simp[*];done)
   | (rw[Bool.eq_iff_iff];simp[jnOk,inB]at *;simp[*];omega)
   | (rw[Bool.eq_iff_iff];simp[jnOk,inB]at *;simp[*];intros;omega)
theorem Y4(b:List UInt8):(Ja b).2<=b.length/\(Ja b).1.length<=b.length:=by
 have d:∀(f:Nat) (x:RdSt),x.2<=b.length->x.1.length<=x.2->(rdF b f x).2<=b.length/\(rdF b f x).1.length<=(rdF b f x).2:=by
  intro f
  induction f with
  | zero=>intro x a c;exact⟨a,c⟩
  | succ f ih=>
   intro x a c
   rw[rdF]
   split
   ·rename_i e
    have he:=QfM a
    have k1:=e.1
    have k2:=e.2.1
    exact ih _ (by simp only[Ya];omega) (by simp only[Ya,Xab,XaF];omega)
   ·exact⟨a,c⟩
 have:=d (b.length+1) ([],0) (Xae _) (Xaj _)
 exact⟨this.1,Xam this.2 this.1⟩
theorem Qrl{b:List UInt8}{m n:Nat}(h:m=n):((QC b).take m).drop 0=QC (b.take n):=by
 subst h
 simp[QC,List.map_take]
theorem QpN{b:List UInt8}{m n:Nat}(h:m=n):[]++((QC b).take m).drop 0=QC (b.take n):=Qrl h
abbrev jnZ:List AV:=[.agg [.nil,zI 0,zI 0]]
abbrev jnR(j:QU):AV:=.agg [.row 0,zI j.synced,zI j.count]
abbrev jnO(j:QU):List (Nat×AO):=[(0,.row 5 (QC j.bytes) true)]
theorem Wy{b:List UInt8}{es:List (List D)}(he:es=QC b)(h:b.length<=1000000000):zAc 104 [zL es] [.row 0] [(0,.row 5 (QC b) true)]:=by
 subst he
 refine zAC func104 fun w0 Z=>?_
 repeat'(first|(refine zhm fun hb=>?_;try exact zab)|refine zUto ?_|refine zg2 ?_ ?_|intro _)
 refine zr [4] ?_ ?_
 repeat'(first|exact ze3|refine ze2 ?_ ?_|refine ze4 ?_|exact ze5|fail)
 all_goals exact zp rfl
def Vj(b:List UInt8):QU:=⟨b.take (Ja b).2,(Ja b).2,(Ja b).1.length⟩
theorem QhK{b:List UInt8}(h:b.length<=40000):zAc 43 [zL (QC b)] [jnR (Vj b)] (jnO (Vj b)):=by
 refine zAC func43 fun w0 Z=>?_
 have hr:=Y4 b
 have a:(b.take (Ja b).2).length<=1000000000:=by rw[Xah];omega
 repeat'(first|(refine zhm fun hb=>?_;try exact zab)|refine zUtp ?_|refine zg2 ?_ ?_|refine kc (Vk (b:=b) (by omega)) rfl rfl ?_|refine kc (Wy (b:=b.take (Ja b).2) (Qrl rfl) a) rfl rfl ?_|intro _)
 refine zr [17] ?_ ?_
 repeat'(first|exact ze3|refine ze2 ?_ ?_|refine ze4 ?_|exact ze5|fail)
 all_goals exact zp rfl
theorem Qgp{b:List UInt8}(h:b.length<=40000):zAc 219 [zL (QC b)] [jnR (Vj b)] (jnO (Vj b)):=by
 refine zAC func219 fun w0 Z=>?_
 have hr:=Y4 b
 repeat'(first|(refine zhm fun hb=>?_;try exact zab)|refine zUtp ?_|refine zg2 ?_ ?_|refine kc (ZU (b:=b) (by omega)) rfl rfl ?_|intro _)
 refine zr [14] ?_ ?_
 repeat'(first|exact ze3|refine ze2 ?_ ?_|refine ze4 ?_|exact ze5|fail)
 all_goals exact zp (by first|rfl|exact QpN (b:=b) (m:=(Ja b).2) (n:=(Ja b).2) rfl)
def Qbd(j:QU):QU:=⟨j.bytes,j.bytes.length,j.count⟩
theorem Qbk{j:QU}(h:j.bytes.length<=1000000000):zAc 202 [jnA j] [jnR j] (jnO j):=by
 refine zAC func202 fun w0 Z=>?_
 repeat'(first|(refine zhm fun hb=>?_;try exact zab)|refine zUto ?_|refine zg2 ?_ ?_|refine kc (Wy rfl h) rfl rfl ?_|intro _)
 refine zr [5] ?_ ?_
 repeat'(first|exact ze3|refine ze2 ?_ ?_|refine ze4 ?_|exact ze5|fail)
 all_goals exact zp rfl
theorem Qgu{j:QU}(h:j.bytes.length<=1000000000)(hk:jnOk j=true):zAc 173 [jnA j] [jnR (Qbd j)] (jnO (Qbd j)):=by
 refine zAC func173 fun w0 Z=>?_
 have b:=VL h
 rw[hk]at b
 repeat'(first|(refine zhm fun hb=>?_;try exact zab)|refine Qd ?_|(apply zch;exact zcg)|exact zhk|refine zg3 ?_ ?_|intro _)
 refine zr [7] ?_ ?_
 repeat'(first|exact ze3|refine ze2 ?_ ?_|refine ze4 ?_|exact ze5|fail)
 all_goals exact zp (by first|rfl|simp)
def W9(j:QU)(keep:Int):Nat:=(j.synced+min (max keep 0) (j.bytes.length-j.synced)).toNat
theorem Qcc{j:QU}(h:jnOk j=true):j.bytes.length<=40000/\0<=j.synced/\j.synced<=j.bytes.length/\(Ja j.bytes).2=j.bytes.length/\((Ja j.bytes).1.length:Int)=j.count:=by
 unfold jnOk inB at h
 simp only[Xac,decide_eq_true_eq]at h
 omega
theorem Qfp{j:QU}{keep:Int}(hk:jnOk j=true):zAc 40 [jnA j,zI keep] [.row 0] [(0,.row 5 (QC (j.bytes.take (W9 j keep))) true)]:=by
 refine zAC func40 fun w0 Z=>?_
 obtain⟨h1,h2,h3,_⟩:=Qcc hk
 have a:=QeS (j:=j) (by omega)
 rw[hk]at a
 have c:(j.bytes.take (W9 j keep)).length<=1000000000:=by rw[Xah];omega
 repeat'(first|(refine zhm fun hb=>?_;try exact zab)|refine zUtp ?_|refine zg2 ?_ ?_|(refine kc (Wy (b:=j.bytes.take (W9 j keep)) (Qrl (by unfold W9;omega)) c) rfl rfl ?_)|intro _)
 refine zr [23] ?_ ?_
 repeat'(first|exact ze3|refine ze2 ?_ ?_|refine ze4 ?_|exact ze5|fail)
 all_goals exact zp rfl
theorem Qfq{j:QU}{keep:Int}(hk:jnOk j=true):zAc 221 [jnA j,zI keep] [.row 0] [(0,.row 5 (QC (j.bytes.take (W9 j keep))) true)]:=by
 refine zAC func221 fun w0 Z=>?_
 obtain⟨h1,h2,h3,_⟩:=Qcc hk
 have a:=VL (j:=j) (by omega)
 rw[hk]at a
 repeat'(first|(refine zhm fun hb=>?_;try exact zab)|refine zUtp ?_|refine zg2 ?_ ?_|intro _)
 all_goals
  refine zr [24] ?_ ?_
  repeat'(first|exact ze3|refine ze2 ?_ ?_|refine ze4 ?_|exact ze5|fail)
  all_goals exact zp (by exact QpN (b:=j.bytes) (n:=W9 j keep) (by unfold W9;omega))
def addC(j:QU)(s:List UInt8):Nat:=if jnOk j=true/\Y0 s=true then(if j.bytes.length+((hdT j.count.toNat++s++[10]).length)<=40000 then 0 else 2)else 1
def VC(j:QU)(s:List UInt8):QU:=⟨j.bytes++(hdT j.count.toNat++s++[10]),j.synced,j.count+1⟩
theorem Qw3{j:QU}{s:List UInt8}(h:jnOk j=false):addC j s=1:=if_neg (by rw[h];exact fun h=>by cases h.1)
theorem QoD{j:QU}{s:List UInt8}(h:Y0 s=false):addC j s=1:=if_neg (by rw[h];exact fun h=>by cases h.2)
theorem QuE{j:QU}{s:List UInt8}(h1:jnOk j=true)(h2:Y0 s=true)(h3:¬j.bytes.length+((hdT j.count.toNat++s++[10]).length)<=40000):addC j s=2:=by unfold addC;rw[if_pos ⟨h1,h2⟩,if_neg h3]
theorem Quu{j:QU}{s:List UInt8}(h1:jnOk j=true)(h2:Y0 s=true)(h3:j.bytes.length+((hdT j.count.toNat++s++[10]).length)<=40000):addC j s=0:=by unfold addC;rw[if_pos ⟨h1,h2⟩,if_pos h3]
theorem QgA{j:QU}{s:List UInt8}(h:addC j s=0):jnOk j=true/\Y0 s=true/\j.bytes.length+((hdT j.count.toNat++s++[10]).length)<=40000:=by
 unfold addC at h
 split at h
 ·rename_i a
  split at h
  ·rename_i b;exact⟨a.1,a.2,b⟩
  ·cases h
 ·cases h
theorem QiQ{s:List UInt8}(h:Y0 s=true):1<=s.length/\s.length<=200:=by
 unfold Y0 at h
 simp only[Xac,decide_eq_true_eq]at h
 exact h.1
end
section

theorem Qg1{b x:List UInt8}{i:Nat}(h:i<b.length):nth (b++x) i=nth b i:=by
 simp only[nth,List.getD_eq_getElem?_getD,List.getElem?_append_left h]
theorem Qhz{b x:List UInt8}{i j:Nat}(h:j<=b.length):subB (b++x) i j=subB b i j:=by
 unfold subB
 rw[Xbe h]
theorem Qrs{b x:List UInt8}:∀(k i:Nat),i+k=b.length->eol b i<b.length->eol (b++x) i=eol b i
 | 0,i,h,he=>by
  obtain rfl:i=b.length:=by omega
  rw[Qaw]at he
  omega
 | k+1,i,h,he=>by
  by_cases hn:nlAt b i
  ·rw[Xp (by omega) hn,Xp (by rw[Xab];omega) (by unfold nlAt;rw[Qg1 (by omega)];exact hn)]
  ·rw[V4 (by omega) hn]at he ⊢
   rw[V4 (by rw[Xab];omega) (by unfold nlAt;rw[Qg1 (by omega)];exact hn)]
   exact Qrs k (i+1) (by omega) he
theorem Qlw{b x:List UInt8}:∀(k i:Nat),i+k=b.length->eol (b++x) i<b.length->eol (b++x) i=eol b i
 | 0,i,h,he=>by
  have:=(QfM (b:=b++x) (i:=i) (by rw[Xab];omega)).1
  omega
 | k+1,i,h,he=>by
  by_cases hn:nlAt b i
  ·rw[Xp (by omega) hn,Xp (by rw[Xab];omega) (by unfold nlAt;rw[Qg1 (by omega)];exact hn)]
  ·have hm:eol (b++x) i=eol (b++x) (i+1):=V4 (by rw[Xab];omega) (by unfold nlAt;rw[Qg1 (by omega)];exact hn)
   rw[hm]at he ⊢
   rw[V4 (by omega) hn]
   exact Qlw k (i+1) (by omega) he
theorem QmP{b x:List UInt8}{s:RdSt}(hs:s.2<=b.length)(hE:eol (b++x) s.2=eol b s.2)(hl:eol b s.2<b.length):(rdOk (b++x) s↔rdOk b s)/\(rdOk b s->Ya (b++x) s=Ya b s):=by
 unfold rdOk Ya
 rw[hE]
 constructor
 ·constructor
  ·rintro ⟨e,d,a,c⟩
   rw[Qhz (by omega)]at a c
   exact⟨hl,d,a,c⟩
  ·rintro ⟨e,d,a,c⟩
   refine⟨by rw[Xab];omega,d,?_,?_⟩
   ·rw[Qhz (by omega)];exact a
   ·rw[Qhz (by omega)];exact c
 ·intro h
  rw[Qhz (by omega)]
theorem QoK{b x:List UInt8}:∀(f:Nat) (s:RdSt),s.2<=b.length->rdAt (b++x) s->rdAt (b++x) (rdF b f s)
 | 0,s,_,h=>h
 | f+1,s,hs,h=>by
  rw[rdF]
  split
  ·rename_i hk
   have hE:=Qrs (b:=b) (x:=x) (b.length-s.2) s.2 (by omega) hk.1
   obtain⟨h1,h2⟩:=QmP hs hE hk.1
   have:=XV h (h1.2 hk)
   rw[h2 hk]at this
   refine QoK f _ ?_ this
   have:=hk.1
   simp only[Ya];omega
  ·exact h
theorem QhA{b:List UInt8}:∀(f:Nat) (s:RdSt),s.2<=b.length->s.2<=(rdF b f s).2/\∃l,(rdF b f s).1=s.1++l
 | 0,s,_=>⟨Xaj _,[],(Xa3 _).symm⟩
 | f+1,s,hs=>by
  rw[rdF]
  split
  ·rename_i hk
   have he:=QfM hs
   have hk1:=hk.1
   obtain⟨h1,l,h2⟩:=QhA (b:=b) f (Ya b s) (by simp only[Ya];omega)
   refine⟨Xam ?_ h1,[subB b (s.2+(hdT s.1.length).length) (eol b s.2)]++l,?_⟩
   ·simp only[Ya];omega
   ·rw[h2];simp only[Ya,Xao]
  ·exact⟨Xaj _,[],(Xa3 _).symm⟩
theorem Qo7{b:List UInt8}{s:RdSt}(h:rdAt b s):s.2<=(Ja b).2/\∃l,(Ja b).1=s.1++l:=by
 obtain⟨a,h2,f,h3,c⟩:=h
 rw[<-c]
 exact QhA f s a
theorem QmR(b x:List UInt8):rdAt (b++x) (Ja b):=QoK (b.length+1) ([],0) (Xae _) (QjB _)
theorem Qry{c x:List UInt8}:∀(f:Nat) (s:RdSt),s.2<=(c++x).length->(rdF (c++x) f s).2<=c.length->rdAt c s->rdAt c (rdF (c++x) f s)
 | 0,s,_,_,h=>h
 | f+1,s,hs,hn,h=>by
  rw[rdF]at hn ⊢
  split
  ·rename_i hk
   rw[if_pos hk]at hn
   have hk1:=hk.1
   have hm:=(QhA (b:=c++x) f (Ya (c++x) s) (by simp only[Ya];omega)).1
   have hlt:eol (c++x) s.2<c.length:=by
    simp only[Ya]at hm hn
    omega
   have hsc:=h.1
   have hE:=Qlw (b:=c) (x:=x) (c.length-s.2) s.2 (by omega) hlt
   obtain⟨h1,h2⟩:=QmP hsc hE (by omega)
   have:=XV h (h1.1 hk)
   rw[<-h2 (h1.1 hk)]at this
   exact Qry f _ (by simp only[Ya];omega) hn this
  ·exact h
theorem Qf5(b:List UInt8):Ja (b.take (Ja b).2)=Ja b:=by
 have hl:=Y4 b
 have a:(b.take (Ja b).2).length=(Ja b).2:=by rw[Xah];omega
 have hb:b.take (Ja b).2++b.drop (Ja b).2=b:=XaK _ _
 have h:=Qry (c:=b.take (Ja b).2) (x:=b.drop (Ja b).2) (b.length+1) ([],0) (Xae _) (by rw[hb,a];exact Xaj _) (QjB _)
 rw[hb]at h
 change rdAt _ (Ja b)at h
 refine Qa2 h ?_
 have:=Qaw (b:=b.take (Ja b).2)
 rw[a]at this
 rw[a]
 exact this
theorem Qli{y:List UInt8}:∀(u b:List UInt8),(∀c∈u,(c.toNat:Int)≠10)->eol (b++(u++10::y)) b.length=b.length+u.length
 | [],b,_=>by
  refine Xp (by simp) ?_
  simp[nlAt,nth]
 | c::u,b,h=>by
  have hc:=h c Xaa
  rw[V4 (by simp) (by simp[nlAt,nth];omega)]
  have:=Qli (y:=y) u (b++[c]) (fun d hd=>h d (Xad _ hd))
  simp only[Xao,XbB,Xab,XaF]at this
  simp only[Xbp,Xap]
  rw[this]
  omega
theorem Qx1(n:Nat):∀c∈hdT n,(c.toNat:Int)≠10:=fun c hc=>by
 unfold hdT at hc
 rw[Xag,XaH]at hc
 rcases hc with hc|rfl
 ·by_cases h:(0:Int)<=n/\(n:Int)<=1000000000
  ·rw[ZO h]at hc
   have:=Xx 9 _ (by omega) c hc
   omega
  ·rw[Qbj (by omega)]at hc
   cases hc
 ·decide
theorem Qx4{s:List UInt8}(h:Y0 s=true):∀c∈s,(c.toNat:Int)≠10:=fun c hc=>by
 unfold Y0 at h
 rw[Xac,XaD]at h
 have:=h.2 c hc
 simp only[bne_iff_ne,ne_eq]at this
 omega
theorem Qox{b s:List UInt8}{R:List (List UInt8)}(h:Ja b=(R,b.length))(hs:Y0 s=true):Ja (b++(hdT R.length++s++[10]))=(R++[s],(b++(hdT R.length++s++[10])).length):=by
 have e:=QmR b (hdT R.length++s++[10])
 rw[h]at e
 have a:eol (b++(hdT R.length++s++[10])) b.length=b.length+(hdT R.length++s).length:=Qli (y:=[]) (hdT R.length++s) b (fun c hc=>by
  rcases Xag.1 hc with hc|hc
  ·exact Qx1 _ c hc
  ·exact Qx4 hs c hc)
 have g:subB (b++(hdT R.length++s++[10])) b.length (b.length+(hdT R.length).length)=hdT R.length:=by
  unfold subB
  rw[Xb3,Xcc,Xao,Xcb]
 have d:subB (b++(hdT R.length++s++[10])) (b.length+(hdT R.length).length) (b.length+(hdT R.length++s).length)=s:=by
  unfold subB
  rw[Xb3,<-Xca,Xcc,Xcb,Xcc]
 have j:rdOk (b++(hdT R.length++s++[10])) (R,b.length):=by
  refine⟨?_,?_,g,?_⟩
  ·show eol _ b.length<_
   rw[a];simp
  ·show _<=eol _ b.length-b.length
   rw[a];simp
  ·show Y0 (subB _ _ (eol _ b.length))=true
   rw[a,d];exact hs
 have f:=XV e j
 have i:Ya (b++(hdT R.length++s++[10])) (R,b.length)=(R++[s],(b++(hdT R.length++s++[10])).length):=by
  unfold Ya
  show(R++[subB _ _ (eol _ b.length)],eol _ b.length+1)=_
  rw[a,d]
  simp
  omega
 rw[i]at f
 exact Qa2 f Qaw
theorem VY{j:QU}:jnOk j=true↔j.bytes.length<=40000/\(0<=j.synced/\j.synced<=j.bytes.length)/\(Ja j.bytes).2=j.bytes.length/\((Ja j.bytes).1.length:Int)=j.count:=by
 unfold jnOk inB
 simp only[Xac,decide_eq_true_eq]
 omega
theorem Qb4{j:QU}{s:List UInt8}(h:addC j s=0):Ja (VC j s).bytes=((Ja j.bytes).1++[s],(VC j s).bytes.length)/\jnOk (VC j s)=true:=by
 obtain⟨g,i,k⟩:=QgA h
 obtain⟨a,b,c,d⟩:=VY.1 g
 have e:j.count.toNat=(Ja j.bytes).1.length:=by omega
 have f:Ja (VC j s).bytes=((Ja j.bytes).1++[s],(VC j s).bytes.length):=by
  unfold VC
  rw[e]
  exact Qox (by rw[<-c]) i
 refine⟨f,VY.2 ⟨?_,?_,?_,?_⟩⟩
 ·simp only[VC,Xab]at k ⊢;omega
 ·simp only[VC,Xab];omega
 ·rw[f]
 ·rw[f];simp only[VC,Xab,XaF];omega
theorem QoJ{b:List UInt8}(h:b.length<=40000):jnOk (Vj b)=true:=by
 have hl:=Y4 b
 have a:=Qf5 b
 have c:(b.take (Ja b).2).length=(Ja b).2:=by rw[Xah];omega
 rw[VY]
 unfold Vj
 dsimp only
 rw[a,c]
 omega
theorem QrT{j:QU}(h:jnOk j=true):jnOk (Qbd j)=true/\(Qbd j).bytes.take (W9 (Qbd j) 0)=j.bytes/\(Vj j.bytes).count=j.count:=by
 obtain⟨a,b,c,d⟩:=VY.1 h
 refine⟨VY.2 ⟨a,?_,c,d⟩,?_,d⟩
 ·simp only[Qbd];omega
 ·have:W9 (Qbd j) 0=j.bytes.length:=by
   unfold W9 Qbd
   simp only
   omega
  rw[this]
  exact Xal
end
section
attribute [local irreducible] AWp QM OpOk ACalls ChA QsOk MCalls EnC PY
structure Vf where
 kind:Int
 cmd:Cmd
 keep:Int
@[reducible] def QkO (x:Vf):AV:=.agg [zI x.kind,zI x.cmd.kind,zI x.cmd.job.id,zI x.cmd.job.prio,zI x.cmd.job.nodes,zI x.cmd.job.need.a,zI x.cmd.job.need.b,zI x.cmd.job.need.c,zI x.cmd.job.lic.a,zI x.cmd.job.lic.b,zI x.cmd.job.lic.c,zI x.cmd.job.wall,zI x.cmd.job.level,zI x.cmd.n,zI x.cmd.lic.a,zI x.cmd.lic.b,zI x.cmd.lic.c,zI x.keep]
def QxL(c:Cmd):Bool:=c.kind==0&&ZR c.job&&c.n==0&&V9 c.lic
def Qyh(x:Vf):List UInt8:=
 if x.kind=1 then(if ¬QL x.cmd=[]/\x.keep=0 then[100,111,32]++QL x.cmd else[])
 else if x.kind=2 then(if ¬QL x.cmd=[]/\inB x.keep 0 1000000000=true then[116,111,114,110,32]++Q1 x.keep++[32]++QL x.cmd else[])
 else if x.kind=3 then(if QxL x.cmd=true/\x.keep=0 then[99,114,97,115,104] else[])
 else if x.kind=4 then(if QxL x.cmd=true/\x.keep=0 then[115,116,97,114,116] else[])
 else[]
theorem QdY(c:Cmd):(QL c).length<=1000:=by
 have h1:=QmJ c.job
 have h2:=Yi c.lic
 have h3:=Qx c.n
 have h4:=Qg9 c.kind
 unfold QL
 repeat' split
 ·simp[JZ,cmdW,nth,VM];omega
 ·simp[JZ,cmdW,nth,VM];omega
 ·simp[JZ];omega
 ·simp
abbrev Qug(c:Nat):List AV:=[.agg [.nil,zI 0,zI 0],zI c]
theorem QsI{j:QU}{s:List UInt8}(hj:jnOk j=true)(hs:s.length<=1000000000)(hc:addC j s≠0):zAc 102 [jnA j,.d (.s s)] (Qug (addC j s)) []:=by
 refine zAC func102 fun w0 Z=>?_
 obtain⟨h1,h2,h3,h4,h5⟩:=Qcc hj
 have a:(j.count.toNat:Int)=j.count:=by have:=Y4 j.bytes;omega
 have b:=Qx j.count.toNat
 rw[a]at b
 have c:(hdT j.count.toNat++s++[10]).length<=1000000012:=by
  have:=Qx j.count.toNat
  simp only[hdT,Xab,XaF];omega
 have e:(Q1 j.count++({ data:=#[32] }:ByteArray).data.toList++s++({ data:=#[10] }:ByteArray).data.toList).length=(hdT j.count.toNat++s++[10]).length:=by rw[hdT,a]
 repeat'(first|(refine zhm fun hb=>?_;try exact zab)|refine zUtp ?_|refine zg2 ?_ ?_|refine zqj VO ?_|refine kc (Qb9 hs) rfl rfl ?_|intro _)
 ·rw[QoD hb]
  refine zr [] ?_ ?_
  repeat'(first|exact ze3|refine ze2 ?_ ?_|refine ze4 ?_|exact ze5|fail)
  all_goals exact zp rfl
 ·rw[QuE hj (by assumption) (by omega)]
  refine zr [] ?_ ?_
  repeat'(first|exact ze3|refine ze2 ?_ ?_|refine ze4 ?_|exact ze5|fail)
  all_goals exact zp rfl
 ·exact absurd (Quu hj (by assumption) (by omega)) hc
theorem Qvt{j:QU}{s:List UInt8}(hc:addC j s=0):zAc 102 [jnA j,.d (.s s)] [jnR (VC j s),zI 0] (jnO (VC j s)):=by
 refine zAC func102 fun w0 Z=>?_
 obtain⟨f,e,hl⟩:=QgA hc
 have i:=QiQ e
 obtain⟨h1,h2,h3,h4,h5⟩:=Qcc f
 have a:(j.count.toNat:Int)=j.count:=by have:=Y4 j.bytes;omega
 have b:=Qx j.count.toNat
 rw[a]at b
 have g:(hdT j.count.toNat++s++[10]).length<=1000000012:=by
  have:=Qx j.count.toNat
  simp only[hdT,Xab,XaF];omega
 have h:(Q1 j.count++({ data:=#[32] }:ByteArray).data.toList++s++({ data:=#[10] }:ByteArray).data.toList).length=(hdT j.count.toNat++s++[10]).length:=by rw[hdT,a]
 have hr:=Y4 j.bytes
 have c:=Qb9 (s:=s) (by omega)
 rw[e]at c
 repeat'(first|(refine zhm fun hb=>?_;try exact zab)|refine zUtp ?_|refine zg2 ?_ ?_|refine zqj VO ?_|refine kc (Wy rfl (by omega)) rfl rfl ?_|intro _)
 refine zr [30] ?_ ?_
 repeat'(first|exact ze3|refine ze2 ?_ ?_|refine ze4 ?_|exact ze5|fail)
 all_goals exact zp (by first|rfl|(rw[QcE];simp only[VC,hdT,a];done)|(simp only[VC];omega))
theorem QiA{j:QU}{s:List UInt8}(hc:addC j s=0):zAc 237 [jnA j,.d (.s s)] [jnR (VC j s),zI 0] (jnO (VC j s)):=by
 refine zAC func237 fun w0 Z=>?_
 obtain⟨g,i,hl⟩:=QgA hc
 have k:=QiQ i
 obtain⟨h1,h2,h3,h4,h5⟩:=Qcc g
 have a:(j.count.toNat:Int)=j.count:=by have:=Y4 j.bytes;omega
 have e:=Qx j.count.toNat
 rw[a]at e
 have hr:=Y4 j.bytes
 have f:=Zv (s:=s) (by omega)
 rw[i]at f
 have c:=VL (j:=j) (by omega)
 rw[g]at c
 have h:([]++QC j.bytes++QC (hdT j.count.toNat++s++[10])).length=j.bytes.length+(hdT j.count.toNat++s++[10]).length:=by rw[Xba,Xab,Qu,Qu]
 have b:=ZQ (n:=j.count.toNat) (s:=s) (by omega)
 rw[a]at b
 repeat'(first|(refine zhm fun hb=>?_;try exact zab)|refine Qd ?_|(apply zch;exact zcg)|exact zhk|refine zg3 ?_ ?_|intro _)
 refine zr [16] ?_ ?_
 repeat'(first|exact ze3|refine ze2 ?_ ?_|refine ze4 ?_|exact ze5|fail)
 all_goals exact zp (by first|rfl|(rw[Xba,QcE];simp only[VC];done)|(simp only[VC];omega))
theorem QhF{j:QU}{s:List UInt8}(h:j.bytes.length<=1000000000)(hs:s.length<=1000000000)(hc:addC j s≠0):zAc 237 [jnA j,.d (.s s)] (Qug (addC j s)) []:=by
 refine zAC func237 fun w0 Z=>?_
 have b:=VL (j:=j) h
 cases a:jnOk j with
 | false=>
  rw[a]at b
  rw[Qw3 a]
  repeat'(first|(refine zhm fun hb=>?_;try exact zab)|refine Qd ?_|(apply zch;exact zcg)|exact zhk|refine zg3 ?_ ?_|intro _)
  refine zr [] ?_ ?_
  repeat'(first|exact ze3|refine ze2 ?_ ?_|refine ze4 ?_|exact ze5|fail)
  all_goals exact zp rfl
 | true=>
  rw[a]at b
  obtain⟨h1,h2,h3,h4,h5⟩:=Qcc a
  have e:(j.count.toNat:Int)=j.count:=by have:=Y4 j.bytes;omega
  have g:(hdT j.count.toNat++s++[10]).length<=1000000012:=by
   have:=Qx j.count.toNat
   simp only[hdT,Xab,XaF];omega
  have f:([]++QC j.bytes++QC (hdT j.count.toNat++s++[10])).length=j.bytes.length+(hdT j.count.toNat++s++[10]).length:=by rw[Xba,Xab,Qu,Qu]
  have c:=ZQ (n:=j.count.toNat) (s:=s) hs
  rw[e]at c
  repeat'(first|(refine zhm fun hb=>?_;try exact zab)|refine Qd ?_|(apply zch;exact zcg)|exact zhk|refine zg3 ?_ ?_|refine kc (Zv hs) rfl rfl ?_|refine kq (Zv hs) rfl rfl ?_|intro _)
  ·rw[QoD (by assumption)]
   refine zr [] ?_ ?_
   repeat'(first|exact ze3|refine ze2 ?_ ?_|refine ze4 ?_|exact ze5|fail)
   all_goals exact zp rfl
  ·rw[QuE a (by assumption) (by omega)]
   refine zr [] ?_ ?_
   repeat'(first|exact ze3|refine ze2 ?_ ?_|refine ze4 ?_|exact ze5|fail)
   all_goals exact zp rfl
  ·exact absurd (Quu a (by assumption) (by omega)) hc
end
end Go.Proofs.YtkdniahincpmaaaGreat
