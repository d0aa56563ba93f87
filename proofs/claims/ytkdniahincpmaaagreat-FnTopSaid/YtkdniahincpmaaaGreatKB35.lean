/-
  The journal's bytes: ReadRecords, both.
-/
import Derived.Test.YtkdniahincpmaaaGreatKB36
import Derived.Test.YtkdniahincpmaaaGreatKB34
set_option maxRecDepth 100000
set_option maxHeartbeats 16000000
namespace Go.Proofs.YtkdniahincpmaaaGreat
open Go Go.RowKit Tryz
section
attribute [local irreducible] AWp QI OpOk ACalls ChA QsOk MCalls EnC PY
abbrev nlAt(b:List UInt8)(i:Nat):Prop:=((nth b i).toNat:Int)=10
def eolF(b:List UInt8):Nat->Nat->Nat
 | 0,i=>i
 | f+1,i=>if nlAt b i then i else eolF b f (i+1)
def eol(b:List UInt8)(i:Nat):Nat:=eolF b (b.length-i) i
theorem XE{b:List UInt8}{i:Nat}(hi:i<b.length)(h:nlAt b i):eol b i=i:=by
 unfold eol
 obtain⟨f,hf⟩:∃f,b.length-i=f+1:=⟨b.length-i-1,by omega⟩
 rw[hf,eolF,if_pos h]
theorem V9{b:List UInt8}{i:Nat}(hi:i<b.length)(h:¬nlAt b i):eol b i=eol b (i+1):=by
 unfold eol
 obtain⟨f,hf⟩:∃f,b.length-i=f+1:=⟨b.length-i-1,by omega⟩
 rw[hf,eolF,if_neg h,show b.length-(i+1)=f by omega]
theorem QaL{b:List UInt8}:eol b b.length=b.length:=by
 unfold eol
 rw[XcA,eolF]
theorem QmD(b:List UInt8):∀(k i:Nat),i+k=b.length->i<=eol b i/\eol b i<=b.length/\(eol b i<b.length->nlAt b (eol b i))
 | 0,i,h=>by
  obtain rfl:i=b.length:=by omega
  rw[QaL]
  exact⟨Xaj _,Xaj _,fun h=>by omega⟩
 | k+1,i,h=>by
  by_cases hn:nlAt b i
  ·rw[XE (by omega) hn]
   exact⟨Xaj _,by omega,fun _=>hn⟩
  ·rw[V9 (by omega) hn]
   have:=QmD b k (i+1) (by omega)
   exact⟨by omega,this.2⟩
theorem Qd0{b:List UInt8}{i:Nat}(h:i<=b.length):i<=eol b i/\eol b i<=b.length/\(eol b i<b.length->nlAt b (eol b i)):=QmD b (b.length-i) i (by omega)
abbrev hdT(n:Nat):List UInt8:=QU n++[32]
theorem QpW(n:Nat):(hdT n).length<=11:=by
 have:=Qs n
 simp[hdT];omega
abbrev subB(b:List UInt8)(i j:Nat):List UInt8:=(b.take j).drop i
theorem Qei{b:List UInt8}(h:b.length<=1000000000)(i j:Nat):(subB b i j).length<=1000000000:=by
 simp only[XaL,Xah];omega
abbrev RdSt:=List (List UInt8)×Nat
def rdOk(b:List UInt8)(x:RdSt):Prop:=eol b x.2<b.length/\(hdT x.1.length).length<=eol b x.2-x.2/\subB b x.2 (x.2+(hdT x.1.length).length)=hdT x.1.length/\YY (subB b (x.2+(hdT x.1.length).length) (eol b x.2))=true
instance (b:List UInt8) (x:RdSt):Decidable (rdOk b x):=by unfold rdOk;infer_instance
def J4(b:List UInt8)(x:RdSt):RdSt:=(x.1++[subB b (x.2+(hdT x.1.length).length) (eol b x.2)],eol b x.2+1)
def rdF(b:List UInt8):Nat->RdSt->RdSt
 | 0,x=>x
 | f+1,x=>if rdOk b x then rdF b f (J4 b x)else x
def Q5(b:List UInt8):RdSt:=rdF b (b.length+1) ([],0)
def rdAt(b:List UInt8)(x:RdSt):Prop:=x.2<=b.length/\x.1.length<=x.2/\∃f,b.length<f+x.2/\rdF b f x=Q5 b
theorem Qib(b:List UInt8):rdAt b ([],0):=⟨Xad _,Xaj _,b.length+1,by simp,rfl⟩
theorem Qag{b:List UInt8}{x:RdSt}(h:rdAt b x)(hk:rdOk b x):rdAt b (J4 b x):=by
 obtain⟨c,h2,f,h3,a⟩:=h
 have he:=Qd0 c
 have k1:=hk.1
 have k2:=hk.2.1
 cases f with
 | zero=>omega
 | succ f=>
  rw[rdF,if_pos hk]at a
  refine⟨by simp only[J4];omega,by simp only[J4,Xaa,Xap];omega,f,by simp only[J4];omega,a⟩
theorem QaJ{b:List UInt8}{x:RdSt}(h:rdAt b x)(hk:¬rdOk b x):Q5 b=x:=by
 obtain⟨h1,h2,f,h3,a⟩:=h
 cases f with
 | zero=>omega
 | succ f=>rw[rdF,if_neg hk]at a;exact a.symm
theorem Qan{b:List UInt8}{x:RdSt}(h:rdAt b x)(he:eol b x.2=b.length):Q5 b=x:=QaJ h (fun hk=>by have:=hk.1;omega)
theorem Vw{b:List UInt8}(h:b.length<=1000000000):zAc 44 [zL (QK b)] [.row 0,zI (Q5 b).2] [(0,.row 9 (strE (Q5 b).1) true)]:=by
 refine zAC func44 fun w0 Z=>?_
 repeat'(first|(refine zhm fun hb=>?_;try exact zab)|refine zUtp ?_|refine zg2 ?_ ?_|intro _)
 refine Qa (fun(x:RdSt)=>⟨77,[(0,zL (QK b)),(4,.row 10),(5,zI x.2),(6,zI x.2)],[(10,.row 9 (strE x.1) true)]⟩) (rdAt b) (fun x=>b.length-x.2) ([],0) (Qib b) ?_ ?_
 ·refine⟨rfl,?_,?_,rfl⟩
  repeat'(first|exact ze3|refine ze2 ?_ ?_|refine ze4 ?_|exact ze5|fail)
  all_goals exact zp rfl
 ·intro x d
  have f:=d.1
  have o:=d.2.1
  have he:=Qd0 f
  repeat'(first|(refine zhm fun hb=>?_;try exact zab)|refine zUtp ?_|refine zg2 ?_ ?_|intro _)
  ·refine Qa (fun(i:Nat)=>⟨77,[(0,zL (QK b)),(4,.row 10),(5,zI x.2),(6,zI x.2),(7,zI i)],[(10,.row 9 (strE x.1) true)]⟩) (fun i=>x.2<=i/\i<=b.length/\eol b i=eol b x.2) (fun i=>b.length-i) x.2 (by exact⟨by omega,f,rfl⟩) ?_ ?_
   ·refine⟨rfl,?_,?_,rfl⟩
    repeat'(first|exact ze3|refine ze2 ?_ ?_|refine ze4 ?_|exact ze5|fail)
    all_goals exact zp rfl
   ·rintro i ⟨l,m,e⟩
    have j:=QpW x.1.length
    have n:=Qs x.1.length
    have k:(QU (x.1.length:Int)++({ data:=#[32] }:ByteArray).data.toList).length=(hdT x.1.length).length:=rfl
    have a:nlAt b i->i<b.length->eol b x.2=i:=fun hn j=>by rw[<-e];exact XE j hn
    repeat'(first|(refine zhm fun hb=>?_;try exact zab)|refine zUtp ?_|refine zg2 ?_ ?_|refine zqj Ve ?_|refine kc (Qb7 (Qei h _ _)) rfl rfl ?_|intro _)
    ·refine⟨i+1,⟨by omega,by omega,by rw[<-e];exact(V9 (by omega) (by assumption)).symm⟩,by omega,?_⟩
     refine⟨rfl,?_,?_,rfl⟩
     repeat'(first|exact ze3|refine ze2 ?_ ?_|refine ze4 ?_|exact ze5|fail)
     all_goals exact zp rfl
    ·have a:=a (by assumption) (by omega)
     have c:=QaJ d fun hk=>by have:=hk.2.1;omega
     rw[c]
     refine zr [10] ?_ ?_
     repeat'(first|exact ze3|refine ze2 ?_ ?_|refine ze4 ?_|exact ze5|fail)
     all_goals exact zp rfl
    ·have a:=a (by assumption) (by omega)
     have c:=QaJ d fun hk=>by have:=hk.2.2.1;contradiction
     rw[c]
     refine zr [10] ?_ ?_
     repeat'(first|exact ze3|refine ze2 ?_ ?_|refine ze4 ?_|exact ze5|fail)
     all_goals exact zp rfl
    ·have a:=a (by assumption) (by omega)
     have c:=QaJ d fun hk=>by have:=hk.2.2.2;rw[a]at this;exact Bool.noConfusion (Eq.trans (Eq.symm this) (by assumption:YY (subB b (x.2+(hdT x.1.length).length) i)=false))
     rw[c]
     refine zr [10] ?_ ?_
     repeat'(first|exact ze3|refine ze2 ?_ ?_|refine ze4 ?_|exact ze5|fail)
     all_goals exact zp rfl
    ·have a:=a (by assumption) (by omega)
     have g:rdOk b x:=⟨by omega,by omega,by assumption,by rw[a];assumption⟩
     refine⟨J4 b x,Qag d g,by simp only[J4];omega,?_⟩
     refine⟨rfl,?_,?_,rfl⟩
     repeat'(first|exact ze3|refine ze2 ?_ ?_|refine ze4 ?_|exact ze5|fail)
     all_goals exact zp (by simp only[J4,a,<-Zq])
    ·have c:=Qan d (by rw[<-e,show i=b.length by omega,QaL])
     rw[c]
     refine zr [10] ?_ ?_
     repeat'(first|exact ze3|refine ze2 ?_ ?_|refine ze4 ?_|exact ze5|fail)
     all_goals exact zp rfl
  ·have c:=Qan d (by rw[show x.2=b.length by omega,QaL])
   rw[c]
   refine zr [10] ?_ ?_
   repeat'(first|exact ze3|refine ze2 ?_ ?_|refine ze4 ?_|exact ze5|fail)
   all_goals exact zp rfl
theorem VF{n:Nat}{s:List UInt8}(h:s.length<=1000000000):zAc 36 [zI n,.d (.s s)] [.d (.s (hdT n++s++[10]))] []:=by
 refine zAC func36 fun w0 Z=>?_
 have c:=Qs n
 repeat'(first|(refine zhm fun hb=>?_;try exact zab)|refine zUto ?_|refine zg2 ?_ ?_|refine zqj VO ?_|intro _)
 refine zr [] ?_ ?_
 repeat'(first|exact ze3|refine ze2 ?_ ?_|refine ze4 ?_|exact ze5|fail)
 all_goals exact zp rfl
def Qwp(b:List UInt8)(i:Nat):Int:=if eol b i<b.length then((eol b i+1:Nat):Int)else -1
theorem Qer{b:List UInt8}{i:Nat}(h:eol b i<b.length):Qwp b i=((eol b i+1:Nat):Int):=if_pos h
theorem QhV{b:List UInt8}{i:Nat}(h:¬eol b i<b.length):Qwp b i = -1:=if_neg h
theorem Qbg{b:List UInt8}{at':Nat}{x:Int}(h:b.length<=1000000000)(ha:at'<=b.length)(hx:Qwp b at'=x):zAc 309 [zL (QK b),zI at'] [zI x] []:=by
 subst hx
 refine zAC func309 fun w0 Z=>?_
 repeat'(first|(refine zhm fun hb=>?_;try exact zab)|refine zUtp ?_|refine zg2 ?_ ?_|intro _)
 refine Qa (fun(i:Nat)=>⟨20,[(0,zL (QK b)),(5,zI i)],[]⟩) (fun i=>at'<=i/\i<=b.length/\eol b i=eol b at') (fun i=>b.length-i) at' (by exact⟨Xaj _,ha,rfl⟩) ?_ ?_
 ·refine⟨rfl,?_,?_,rfl⟩
  repeat'(first|exact ze3|refine ze2 ?_ ?_|refine ze4 ?_|exact ze5|fail)
  all_goals exact zp rfl
 ·rintro i ⟨d,e,a⟩
  repeat'(first|(refine zhm fun hb=>?_;try exact zab)|refine zUtp ?_|refine zg2 ?_ ?_|intro _)
  ·have c:eol b at'=i:=by rw[<-a];exact XE (by omega) (by assumption)
   rw[Qer (by omega),c]
   refine zr [] ?_ ?_
   repeat'(first|exact ze3|refine ze2 ?_ ?_|refine ze4 ?_|exact ze5|fail)
   all_goals exact zp rfl
  ·refine⟨i+1,⟨by omega,by omega,by rw[<-a];exact(V9 (by omega) (by assumption)).symm⟩,by omega,?_⟩
   refine⟨rfl,?_,?_,rfl⟩
   repeat'(first|exact ze3|refine ze2 ?_ ?_|refine ze4 ?_|exact ze5|fail)
   all_goals exact zp rfl
  ·have c:eol b at'=b.length:=by rw[<-a,show i=b.length by omega,QaL]
   rw[QhV (by omega)]
   refine zr [] ?_ ?_
   repeat'(first|exact ze3|refine ze2 ?_ ?_|refine ze4 ?_|exact ze5|fail)
   all_goals exact zp rfl
theorem Qul{b:List UInt8}{i k e:Nat}(h1:i+k<=e)(h2:e<b.length):subB b i (e+1)=subB b i (i+k)++subB b (i+k) e++[nth b e]:=by
 have d:b[e]=nth b e:=by rw[nth,List.getD_eq_getElem?_getD,List.getElem?_eq_getElem h2];rfl
 rw[<-d]
 unfold subB
 rw[Xaz h2,XbI (by rw[Xah];omega)]
 congr 1
 have a:b.take (i+k)=(b.take e).take (i+k):=by rw[XcB,Xcy h1]
 rw[a]
 have c:(b.take e).length=e:=by rw[Xah];omega
 generalize b.take e=t at c
 have:=XaK k (t.drop i)
 rw[Xb4,List.take_drop]at this
 exact this.symm
theorem Qmm{b:List UInt8}{i e:Nat}{hd:List UInt8}(h1:i+hd.length<=e)(h2:e<b.length)(hn:nlAt b e):hd++subB b (i+hd.length) e++[10]=subB b i (e+1)↔subB b i (i+hd.length)=hd:=by
 have a:nth b e=10:=by
  apply UInt8.toNat_inj.1
  have:((nth b e).toNat:Int)=10:=hn
  have c:(10:UInt8).toNat=10:=rfl
  omega
 rw[Qul h1 h2,a]
 constructor
 ·intro h
  have c:=List.append_cancel_right h
  exact(List.append_cancel_right c).symm
 ·intro h
  rw[h]
theorem ZQ{b:List UInt8}(h:b.length<=1000000000):zAc 280 [zL (QK b)] [.row 0,zI (Q5 b).2] [(0,.row 9 (strE (Q5 b).1) true)]:=by
 refine zAC func280 fun w0 Z=>?_
 repeat'(first|(refine zhm fun hb=>?_;try exact zab)|refine Qd ?_|(apply zch;exact zcg)|exact zhk|refine zg3 ?_ ?_|intro _)
 refine Qa (fun(x:RdSt)=>⟨60,[(0,zL (QK b)),(4,.row 9),(5,zI x.2)],[(9,.row 9 (strE x.1) true)]⟩) (rdAt b) (fun x=>b.length-x.2) ([],0) (Qib b) ?_ ?_
 ·refine⟨rfl,?_,?_,rfl⟩
  repeat'(first|exact ze3|refine ze2 ?_ ?_|refine ze4 ?_|exact ze5|fail)
  all_goals exact zp rfl
 ·intro x f
  have c:=f.1
  have p:=f.2.1
  have k:=Qd0 c
  have hl:=QpW x.1.length
  have o:=Qs x.1.length
  have a:(hdT x.1.length).length=(QU (x.1.length:Int)).length+1:=by simp[hdT]
  by_cases d:eol b x.2<b.length
  ·repeat'(first|(refine zhm fun hb=>?_;try exact zab)|refine Qd ?_|(apply zch;exact zcg)|exact zhk|refine zg3 ?_ ?_|refine kc (Qbg h c (Qer d)) rfl rfl ?_|refine zqd VO ?_|refine kc (Zz (Qei h _ _)) rfl rfl ?_|refine kc (VF (Qei h _ _)) rfl rfl ?_|refine kq (Qbg h c (Qer d)) rfl rfl ?_|refine kq (Zz (Qei h _ _)) rfl rfl ?_|refine kq (VF (Qei h _ _)) rfl rfl ?_|intro _)
   ·have e:=QaJ f fun hk=>by have:=hk.2.1;omega
    rw[e]
    refine zr [9] ?_ ?_
    repeat'(first|exact ze3|refine ze2 ?_ ?_|refine ze4 ?_|exact ze5|fail)
    all_goals exact zp rfl
   ·have e:=QaJ f fun hk=>by have g:=hk.2.2.2;rw[a]at g;exact Bool.noConfusion (Eq.trans (Eq.symm g) hb)
    rw[e]
    refine zr [9] ?_ ?_
    repeat'(first|exact ze3|refine ze2 ?_ ?_|refine ze4 ?_|exact ze5|fail)
    all_goals exact zp rfl
   ·have e:=QaJ f fun hk=>by have g:=(Qmm (hd:=hdT x.1.length) (by omega) d (k.2.2 d)).2 hk.2.2.1;rw[a]at g;exact hb g
    rw[e]
    refine zr [9] ?_ ?_
    repeat'(first|exact ze3|refine ze2 ?_ ?_|refine ze4 ?_|exact ze5|fail)
    all_goals exact zp rfl
   ·rename_i l m n
    have i:rdOk b x:=⟨d,by omega,(Qmm (hd:=hdT x.1.length) (by omega) d (k.2.2 d)).1 (by rw[a];assumption),by rw[a];assumption⟩
    refine⟨J4 b x,Qag f i,by simp only[J4];omega,?_⟩
    refine⟨rfl,?_,?_,rfl⟩
    repeat'(first|exact ze3|refine ze2 ?_ ?_|refine ze4 ?_|exact ze5|fail)
    ·exact zp rfl
    ·exact zp (by rw[Zq];simp only[J4,a,XbX])
  ·repeat'(first|(refine zhm fun hb=>?_;try exact zab)|refine Qd ?_|(apply zch;exact zcg)|exact zhk|refine zg3 ?_ ?_|refine kc (Qbg h c (QhV d)) rfl rfl ?_|refine zqd VO ?_|refine kq (Qbg h c (QhV d)) rfl rfl ?_|intro _)
   have e:=Qan f (by omega)
   rw[e]
   refine zr [9] ?_ ?_
   repeat'(first|exact ze3|refine ze2 ?_ ?_|refine ze4 ?_|exact ze5|fail)
   all_goals exact zp rfl
def jnOk(j:Q7):Bool:=decide ((j.bytes.length:Int)<=40000)&&inB j.synced 0 j.bytes.length&&decide (((Q5 j.bytes).2:Int)=j.bytes.length)&&decide (((Q5 j.bytes).1.length:Int)=j.count)
theorem Qee{j:Q7}(h:j.bytes.length<=1000000000):zAc 49 [jnA j] [.d (.b (jnOk j))] []:=by
 refine zAC func49 fun w0 Z=>?_
 repeat'(first|(refine zhm fun hb=>?_;try exact zab)|refine zUtp ?_|refine zg2 ?_ ?_|refine zqj QV ?_|refine kc (Vw (b:=j.bytes) h) rfl rfl ?_|intro _)
 all_goals
  refine zr [] ?_ ?_
  repeat'(first|exact ze3|refine ze2 ?_ ?_|refine ze4 ?_|exact ze5|fail)
  refine zp ?_
  first
   | done
   | (rw[Bool.eq_iff_iff];simp[jnOk,inB]at *;omega)
   | (rw[Bool.eq_iff_iff];simp[jnOk,inB]at *;done)
   | (rw[Bool.eq_iff_iff];simp[jnOk,inB]at *;simp[*];done)
   | (rw[Bool.eq_iff_iff];simp[jnOk,inB]at *;simp[*];omega)
   | (rw[Bool.eq_iff_iff];simp[jnOk,inB]at *;simp[*];intros;omega)
theorem VT{j:Q7}(h:j.bytes.length<=1000000000):zAc 238 [jnA j] [.d (.b (jnOk j))] []:=by
 refine zAC func238 fun w0 Z=>?_
 repeat'(first|(refine zhm fun hb=>?_;try exact zab)|refine zUtp ?_|refine zg2 ?_ ?_|refine kc (ZQ (b:=j.bytes) h) rfl rfl ?_|intro _)
 all_goals
  refine zr [] ?_ ?_
  repeat'(first|exact ze3|refine ze2 ?_ ?_|refine ze4 ?_|exact ze5|fail)
  refine zp ?_
  first
   | done
   | (rw[Bool.eq_iff_iff];simp[jnOk,inB]at *;omega)
   | (rw[Bool.eq_iff_iff];simp[jnOk,inB]at *;done)
   | (rw[Bool.eq_iff_iff];simp[jnOk,inB]at *;simp[*];done)
   | (rw[Bool.eq_iff_iff];simp[jnOk,inB]at *;simp[*];omega)
   | (rw[Bool.eq_iff_iff];simp[jnOk,inB]at *;simp[*];intros;omega)
theorem YW(b:List UInt8):(Q5 b).2<=b.length/\(Q5 b).1.length<=b.length:=by
 have d:∀(f:Nat) (x:RdSt),x.2<=b.length->x.1.length<=x.2->(rdF b f x).2<=b.length/\(rdF b f x).1.length<=(rdF b f x).2:=by
  intro f
  induction f with
  | zero=>intro x a c;exact⟨a,c⟩
  | succ f ih=>
   intro x a c
   rw[rdF]
   split
   ·rename_i e
    have he:=Qd0 a
    have k1:=e.1
    have k2:=e.2.1
    exact ih _ (by simp only[J4];omega) (by simp only[J4,Xaa,Xap];omega)
   ·exact⟨a,c⟩
 have:=d (b.length+1) ([],0) (Xad _) (Xaj _)
 exact⟨this.1,Xal this.2 this.1⟩
theorem QrB{b:List UInt8}{m n:Nat}(h:m=n):((QK b).take m).drop 0=QK (b.take n):=by
 subst h
 simp[QK,List.map_take]
theorem Qqp{b:List UInt8}{m n:Nat}(h:m=n):[]++((QK b).take m).drop 0=QK (b.take n):=QrB h
abbrev jnZ:List AV:=[.agg [.nil,zI 0,zI 0]]
abbrev jnR(j:Q7):AV:=.agg [.row 0,zI j.synced,zI j.count]
abbrev jnO(j:Q7):List (Nat×AO):=[(0,.row 5 (QK j.bytes) true)]
theorem WQ{b:List UInt8}{es:List (List D)}(he:es=QK b)(h:b.length<=1000000000):zAc 104 [zL es] [.row 0] [(0,.row 5 (QK b) true)]:=by
 subst he
 refine zAC func104 fun w0 Z=>?_
 repeat'(first|(refine zhm fun hb=>?_;try exact zab)|refine zUto ?_|refine zg2 ?_ ?_|intro _)
 refine zr [4] ?_ ?_
 repeat'(first|exact ze3|refine ze2 ?_ ?_|refine ze4 ?_|exact ze5|fail)
 all_goals exact zp rfl
def WF(b:List UInt8):Q7:=⟨b.take (Q5 b).2,(Q5 b).2,(Q5 b).1.length⟩
theorem Qhh{b:List UInt8}(h:b.length<=40000):zAc 43 [zL (QK b)] [jnR (WF b)] (jnO (WF b)):=by
 refine zAC func43 fun w0 Z=>?_
 have hr:=YW b
 have a:(b.take (Q5 b).2).length<=1000000000:=by rw[Xah];omega
 repeat'(first|(refine zhm fun hb=>?_;try exact zab)|refine zUtp ?_|refine zg2 ?_ ?_|refine kc (Vw (b:=b) (by omega)) rfl rfl ?_|refine kc (WQ (b:=b.take (Q5 b).2) (QrB rfl) a) rfl rfl ?_|intro _)
 refine zr [17] ?_ ?_
 repeat'(first|exact ze3|refine ze2 ?_ ?_|refine ze4 ?_|exact ze5|fail)
 all_goals exact zp rfl
theorem QgI{b:List UInt8}(h:b.length<=40000):zAc 219 [zL (QK b)] [jnR (WF b)] (jnO (WF b)):=by
 refine zAC func219 fun w0 Z=>?_
 have hr:=YW b
 repeat'(first|(refine zhm fun hb=>?_;try exact zab)|refine zUtp ?_|refine zg2 ?_ ?_|refine kc (ZQ (b:=b) (by omega)) rfl rfl ?_|intro _)
 refine zr [14] ?_ ?_
 repeat'(first|exact ze3|refine ze2 ?_ ?_|refine ze4 ?_|exact ze5|fail)
 all_goals exact zp (by first|rfl|exact Qqp (b:=b) (m:=(Q5 b).2) (n:=(Q5 b).2) rfl)
def QaA(j:Q7):Q7:=⟨j.bytes,j.bytes.length,j.count⟩
theorem QbL{j:Q7}(h:j.bytes.length<=1000000000):zAc 202 [jnA j] [jnR j] (jnO j):=by
 refine zAC func202 fun w0 Z=>?_
 repeat'(first|(refine zhm fun hb=>?_;try exact zab)|refine zUto ?_|refine zg2 ?_ ?_|refine kc (WQ rfl h) rfl rfl ?_|intro _)
 refine zr [5] ?_ ?_
 repeat'(first|exact ze3|refine ze2 ?_ ?_|refine ze4 ?_|exact ze5|fail)
 all_goals exact zp rfl
theorem QhC{j:Q7}(h:j.bytes.length<=1000000000)(hk:jnOk j=true):zAc 173 [jnA j] [jnR (QaA j)] (jnO (QaA j)):=by
 refine zAC func173 fun w0 Z=>?_
 have b:=VT h
 rw[hk]at b
 repeat'(first|(refine zhm fun hb=>?_;try exact zab)|refine Qd ?_|(apply zch;exact zcg)|exact zhk|refine zg3 ?_ ?_|intro _)
 refine zr [7] ?_ ?_
 repeat'(first|exact ze3|refine ze2 ?_ ?_|refine ze4 ?_|exact ze5|fail)
 all_goals exact zp (by first|rfl|simp)
def JO(j:Q7)(keep:Int):Nat:=(j.synced+min (max keep 0) (j.bytes.length-j.synced)).toNat
theorem Qcy{j:Q7}(h:jnOk j=true):j.bytes.length<=40000/\0<=j.synced/\j.synced<=j.bytes.length/\(Q5 j.bytes).2=j.bytes.length/\((Q5 j.bytes).1.length:Int)=j.count:=by
 unfold jnOk inB at h
 simp only[Xab,decide_eq_true_eq]at h
 omega
theorem Qay{j:Q7}{keep:Int}(hk:jnOk j=true):zAc 40 [jnA j,zI keep] [.row 0] [(0,.row 5 (QK (j.bytes.take (JO j keep))) true)]:=by
 refine zAC func40 fun w0 Z=>?_
 obtain⟨h1,h2,h3,_⟩:=Qcy hk
 have a:=Qee (j:=j) (by omega)
 rw[hk]at a
 have c:(j.bytes.take (JO j keep)).length<=1000000000:=by rw[Xah];omega
 repeat'(first|(refine zhm fun hb=>?_;try exact zab)|refine zUtp ?_|refine zg2 ?_ ?_|(refine kc (WQ (b:=j.bytes.take (JO j keep)) (QrB (by unfold JO;omega)) c) rfl rfl ?_)|intro _)
 refine zr [23] ?_ ?_
 repeat'(first|exact ze3|refine ze2 ?_ ?_|refine ze4 ?_|exact ze5|fail)
 all_goals exact zp rfl
theorem Qfx{j:Q7}{keep:Int}(hk:jnOk j=true):zAc 221 [jnA j,zI keep] [.row 0] [(0,.row 5 (QK (j.bytes.take (JO j keep))) true)]:=by
 refine zAC func221 fun w0 Z=>?_
 obtain⟨h1,h2,h3,_⟩:=Qcy hk
 have a:=VT (j:=j) (by omega)
 rw[hk]at a
 repeat'(first|(refine zhm fun hb=>?_;try exact zab)|refine zUtp ?_|refine zg2 ?_ ?_|intro _)
 all_goals
  refine zr [24] ?_ ?_
  repeat'(first|exact ze3|refine ze2 ?_ ?_|refine ze4 ?_|exact ze5|fail)
  all_goals exact zp (by exact Qqp (b:=j.bytes) (n:=JO j keep) (by unfold JO;omega))
def addC(j:Q7)(s:List UInt8):Nat:=if jnOk j=true/\YY s=true then(if j.bytes.length+((hdT j.count.toNat++s++[10]).length)<=40000 then 0 else 2)else 1
def Yq(j:Q7)(s:List UInt8):Q7:=⟨j.bytes++(hdT j.count.toNat++s++[10]),j.synced,j.count+1⟩
theorem QyD{j:Q7}{s:List UInt8}(h:jnOk j=false):addC j s=1:=if_neg (by rw[h];exact fun h=>by cases h.1)
theorem QrT{j:Q7}{s:List UInt8}(h:YY s=false):addC j s=1:=if_neg (by rw[h];exact fun h=>by cases h.2)
theorem QuZ{j:Q7}{s:List UInt8}(h1:jnOk j=true)(h2:YY s=true)(h3:¬j.bytes.length+((hdT j.count.toNat++s++[10]).length)<=40000):addC j s=2:=by unfold addC;rw[if_pos ⟨h1,h2⟩,if_neg h3]
theorem Qvd{j:Q7}{s:List UInt8}(h1:jnOk j=true)(h2:YY s=true)(h3:j.bytes.length+((hdT j.count.toNat++s++[10]).length)<=40000):addC j s=0:=by unfold addC;rw[if_pos ⟨h1,h2⟩,if_pos h3]
theorem Qdh{j:Q7}{s:List UInt8}(h:addC j s=0):jnOk j=true/\YY s=true/\j.bytes.length+((hdT j.count.toNat++s++[10]).length)<=40000:=by
 unfold addC at h
 split at h
 ·rename_i a
  split at h
  ·rename_i b;exact⟨a.1,a.2,b⟩
  ·cases h
 ·cases h
theorem Qjp{s:List UInt8}(h:YY s=true):1<=s.length/\s.length<=200:=by
 unfold YY at h
 simp only[Xab,decide_eq_true_eq]at h
 exact h.1
end
section

theorem QgY{b x:List UInt8}{i:Nat}(h:i<b.length):nth (b++x) i=nth b i:=by
 simp only[nth,List.getD_eq_getElem?_getD,List.getElem?_append_left h]
theorem Qg5{b x:List UInt8}{i j:Nat}(h:j<=b.length):subB (b++x) i j=subB b i j:=by
 unfold subB
 rw[Xa5 h]
theorem QoL{b x:List UInt8}:∀(k i:Nat),i+k=b.length->eol b i<b.length->eol (b++x) i=eol b i
 | 0,i,h,he=>by
  obtain rfl:i=b.length:=by omega
  rw[QaL]at he
  omega
 | k+1,i,h,he=>by
  by_cases hn:nlAt b i
  ·rw[XE (by omega) hn,XE (by rw[Xaa];omega) (by unfold nlAt;rw[QgY (by omega)];exact hn)]
  ·rw[V9 (by omega) hn]at he ⊢
   rw[V9 (by rw[Xaa];omega) (by unfold nlAt;rw[QgY (by omega)];exact hn)]
   exact QoL k (i+1) (by omega) he
theorem QlA{b x:List UInt8}:∀(k i:Nat),i+k=b.length->eol (b++x) i<b.length->eol (b++x) i=eol b i
 | 0,i,h,he=>by
  have:=(Qd0 (b:=b++x) (i:=i) (by rw[Xaa];omega)).1
  omega
 | k+1,i,h,he=>by
  by_cases hn:nlAt b i
  ·rw[XE (by omega) hn,XE (by rw[Xaa];omega) (by unfold nlAt;rw[QgY (by omega)];exact hn)]
  ·have hm:eol (b++x) i=eol (b++x) (i+1):=V9 (by rw[Xaa];omega) (by unfold nlAt;rw[QgY (by omega)];exact hn)
   rw[hm]at he ⊢
   rw[V9 (by omega) hn]
   exact QlA k (i+1) (by omega) he
theorem QmK{b x:List UInt8}{s:RdSt}(hs:s.2<=b.length)(hE:eol (b++x) s.2=eol b s.2)(hl:eol b s.2<b.length):(rdOk (b++x) s↔rdOk b s)/\(rdOk b s->J4 (b++x) s=J4 b s):=by
 unfold rdOk J4
 rw[hE]
 constructor
 ·constructor
  ·rintro ⟨e,d,a,c⟩
   rw[Qg5 (by omega)]at a c
   exact⟨hl,d,a,c⟩
  ·rintro ⟨e,d,a,c⟩
   refine⟨by rw[Xaa];omega,d,?_,?_⟩
   ·rw[Qg5 (by omega)];exact a
   ·rw[Qg5 (by omega)];exact c
 ·intro h
  rw[Qg5 (by omega)]
theorem QrI{b x:List UInt8}:∀(f:Nat) (s:RdSt),s.2<=b.length->rdAt (b++x) s->rdAt (b++x) (rdF b f s)
 | 0,s,_,h=>h
 | f+1,s,hs,h=>by
  rw[rdF]
  split
  ·rename_i hk
   have hE:=QoL (b:=b) (x:=x) (b.length-s.2) s.2 (by omega) hk.1
   obtain⟨h1,h2⟩:=QmK hs hE hk.1
   have:=Qag h (h1.2 hk)
   rw[h2 hk]at this
   refine QrI f _ ?_ this
   have:=hk.1
   simp only[J4];omega
  ·exact h
theorem QgJ{b:List UInt8}:∀(f:Nat) (s:RdSt),s.2<=b.length->s.2<=(rdF b f s).2/\∃l,(rdF b f s).1=s.1++l
 | 0,s,_=>⟨Xaj _,[],(XaS _).symm⟩
 | f+1,s,hs=>by
  rw[rdF]
  split
  ·rename_i hk
   have he:=Qd0 hs
   have hk1:=hk.1
   obtain⟨h1,l,h2⟩:=QgJ (b:=b) f (J4 b s) (by simp only[J4];omega)
   refine⟨Xal ?_ h1,[subB b (s.2+(hdT s.1.length).length) (eol b s.2)]++l,?_⟩
   ·simp only[J4];omega
   ·rw[h2];simp only[J4,Xaq]
  ·exact⟨Xaj _,[],(XaS _).symm⟩
theorem Qrt{b:List UInt8}{s:RdSt}(h:rdAt b s):s.2<=(Q5 b).2/\∃l,(Q5 b).1=s.1++l:=by
 obtain⟨a,h2,f,h3,c⟩:=h
 rw[<-c]
 exact QgJ f s a
theorem QhY(b x:List UInt8):rdAt (b++x) (Q5 b):=QrI (b.length+1) ([],0) (Xad _) (Qib _)
theorem QoG{c x:List UInt8}:∀(f:Nat) (s:RdSt),s.2<=(c++x).length->(rdF (c++x) f s).2<=c.length->rdAt c s->rdAt c (rdF (c++x) f s)
 | 0,s,_,_,h=>h
 | f+1,s,hs,hn,h=>by
  rw[rdF]at hn ⊢
  split
  ·rename_i hk
   rw[if_pos hk]at hn
   have hk1:=hk.1
   have hm:=(QgJ (b:=c++x) f (J4 (c++x) s) (by simp only[J4];omega)).1
   have hlt:eol (c++x) s.2<c.length:=by
    simp only[J4]at hm hn
    omega
   have hsc:=h.1
   have hE:=QlA (b:=c) (x:=x) (c.length-s.2) s.2 (by omega) hlt
   obtain⟨h1,h2⟩:=QmK hsc hE (by omega)
   have:=Qag h (h1.1 hk)
   rw[<-h2 (h1.1 hk)]at this
   exact QoG f _ (by simp only[J4];omega) hn this
  ·exact h
theorem Qf1(b:List UInt8):Q5 (b.take (Q5 b).2)=Q5 b:=by
 have hl:=YW b
 have a:(b.take (Q5 b).2).length=(Q5 b).2:=by rw[Xah];omega
 have hb:b.take (Q5 b).2++b.drop (Q5 b).2=b:=XaK _ _
 have h:=QoG (c:=b.take (Q5 b).2) (x:=b.drop (Q5 b).2) (b.length+1) ([],0) (Xad _) (by rw[hb,a];exact Xaj _) (Qib _)
 rw[hb]at h
 change rdAt _ (Q5 b)at h
 refine Qan h ?_
 have:=QaL (b:=b.take (Q5 b).2)
 rw[a]at this
 rw[a]
 exact this
theorem QlH{y:List UInt8}:∀(u b:List UInt8),(∀c∈u,(c.toNat:Int)≠10)->eol (b++(u++10::y)) b.length=b.length+u.length
 | [],b,_=>by
  refine XE (by simp) ?_
  simp[nlAt,nth]
 | c::u,b,h=>by
  have hc:=h c Xac
  rw[V9 (by simp) (by simp[nlAt,nth];omega)]
  have:=QlH (y:=y) u (b++[c]) (fun d hd=>h d (Xae _ hd))
  simp only[Xaq,XbG,Xaa,Xap]at this
  simp only[Xa0,Xao]
  rw[this]
  omega
theorem QuQ(n:Nat):∀c∈hdT n,(c.toNat:Int)≠10:=fun c hc=>by
 unfold hdT at hc
 rw[Xag,XaH]at hc
 rcases hc with hc|rfl
 ·by_cases h:(0:Int)<=n/\(n:Int)<=1000000000
  ·rw[ZS h]at hc
   have:=XA 9 _ (by omega) c hc
   omega
  ·rw[Qbk (by omega)]at hc
   cases hc
 ·decide
theorem Qux{s:List UInt8}(h:YY s=true):∀c∈s,(c.toNat:Int)≠10:=fun c hc=>by
 unfold YY at h
 rw[Xab,Xaw]at h
 have:=h.2 c hc
 simp only[bne_iff_ne,ne_eq]at this
 omega
theorem QpF{b s:List UInt8}{R:List (List UInt8)}(h:Q5 b=(R,b.length))(hs:YY s=true):Q5 (b++(hdT R.length++s++[10]))=(R++[s],(b++(hdT R.length++s++[10])).length):=by
 have e:=QhY b (hdT R.length++s++[10])
 rw[h]at e
 have a:eol (b++(hdT R.length++s++[10])) b.length=b.length+(hdT R.length++s).length:=QlH (y:=[]) (hdT R.length++s) b (fun c hc=>by
  rcases Xag.1 hc with hc|hc
  ·exact QuQ _ c hc
  ·exact Qux hs c hc)
 have g:subB (b++(hdT R.length++s++[10])) b.length (b.length+(hdT R.length).length)=hdT R.length:=by
  unfold subB
  rw[XbZ,Xb6,Xaq,Xb5]
 have d:subB (b++(hdT R.length++s++[10])) (b.length+(hdT R.length).length) (b.length+(hdT R.length++s).length)=s:=by
  unfold subB
  rw[XbZ,<-Xb4,Xb6,Xb5,Xb6]
 have j:rdOk (b++(hdT R.length++s++[10])) (R,b.length):=by
  refine⟨?_,?_,g,?_⟩
  ·show eol _ b.length<_
   rw[a];simp
  ·show _<=eol _ b.length-b.length
   rw[a];simp
  ·show YY (subB _ _ (eol _ b.length))=true
   rw[a,d];exact hs
 have f:=Qag e j
 have i:J4 (b++(hdT R.length++s++[10])) (R,b.length)=(R++[s],(b++(hdT R.length++s++[10])).length):=by
  unfold J4
  show(R++[subB _ _ (eol _ b.length)],eol _ b.length+1)=_
  rw[a,d]
  simp
  omega
 rw[i]at f
 exact Qan f QaL
theorem Ws{j:Q7}:jnOk j=true↔j.bytes.length<=40000/\(0<=j.synced/\j.synced<=j.bytes.length)/\(Q5 j.bytes).2=j.bytes.length/\((Q5 j.bytes).1.length:Int)=j.count:=by
 unfold jnOk inB
 simp only[Xab,decide_eq_true_eq]
 omega
theorem QcF{j:Q7}{s:List UInt8}(h:addC j s=0):Q5 (Yq j s).bytes=((Q5 j.bytes).1++[s],(Yq j s).bytes.length)/\jnOk (Yq j s)=true:=by
 obtain⟨g,i,k⟩:=Qdh h
 obtain⟨a,b,c,d⟩:=Ws.1 g
 have e:j.count.toNat=(Q5 j.bytes).1.length:=by omega
 have f:Q5 (Yq j s).bytes=((Q5 j.bytes).1++[s],(Yq j s).bytes.length):=by
  unfold Yq
  rw[e]
  exact QpF (by rw[<-c]) i
 refine⟨f,Ws.2 ⟨?_,?_,?_,?_⟩⟩
 ·simp only[Yq,Xaa]at k ⊢;omega
 ·simp only[Yq,Xaa];omega
 ·rw[f]
 ·rw[f];simp only[Yq,Xaa,Xap];omega
theorem Qiv{b:List UInt8}(h:b.length<=40000):jnOk (WF b)=true:=by
 have hl:=YW b
 have a:=Qf1 b
 have c:(b.take (Q5 b).2).length=(Q5 b).2:=by rw[Xah];omega
 rw[Ws]
 unfold WF
 dsimp only
 rw[a,c]
 omega
theorem Que{j:Q7}(h:jnOk j=true):jnOk (QaA j)=true/\(QaA j).bytes.take (JO (QaA j) 0)=j.bytes/\(WF j.bytes).count=j.count:=by
 obtain⟨a,b,c,d⟩:=Ws.1 h
 refine⟨Ws.2 ⟨a,?_,c,d⟩,?_,d⟩
 ·simp only[QaA];omega
 ·have:JO (QaA j) 0=j.bytes.length:=by
   unfold JO QaA
   simp only
   omega
  rw[this]
  exact Xak
end
section
attribute [local irreducible] AWp QI OpOk ACalls ChA QsOk MCalls EnC PY
structure WA where
 kind:Int
 cmd:Cmd
 keep:Int
@[reducible] def Qcm (x:WA):AV:=.agg [zI x.kind,zI x.cmd.kind,zI x.cmd.job.id,zI x.cmd.job.prio,zI x.cmd.job.nodes,zI x.cmd.job.need.a,zI x.cmd.job.need.b,zI x.cmd.job.need.c,zI x.cmd.job.lic.a,zI x.cmd.job.lic.b,zI x.cmd.job.lic.c,zI x.cmd.job.wall,zI x.cmd.job.level,zI x.cmd.n,zI x.cmd.lic.a,zI x.cmd.lic.b,zI x.cmd.lic.c,zI x.keep]
def Qx9(c:Cmd):Bool:=c.kind==0&&Z5 c.job&&c.n==0&&Zk c.lic
def QyS(x:WA):List UInt8:=
 if x.kind=1 then(if ¬Qq x.cmd=[]/\x.keep=0 then[100,111,32]++Qq x.cmd else[])
 else if x.kind=2 then(if ¬Qq x.cmd=[]/\inB x.keep 0 1000000000=true then[116,111,114,110,32]++QU x.keep++[32]++Qq x.cmd else[])
 else if x.kind=3 then(if Qx9 x.cmd=true/\x.keep=0 then[99,114,97,115,104] else[])
 else if x.kind=4 then(if Qx9 x.cmd=true/\x.keep=0 then[115,116,97,114,116] else[])
 else[]
theorem QaR(c:Cmd):(Qq c).length<=1000:=by
 have h1:=QlW c.job
 have h2:=Ye c.lic
 have h3:=Qs c.n
 have h4:=QgS c.kind
 unfold Qq
 repeat' split
 ·simp[JV,cmdW,nth,VE];omega
 ·simp[JV,cmdW,nth,VE];omega
 ·simp[JV];omega
 ·simp
abbrev Qu7(c:Nat):List AV:=[.agg [.nil,zI 0,zI 0],zI c]
theorem QsK{j:Q7}{s:List UInt8}(hj:jnOk j=true)(hs:s.length<=1000000000)(hc:addC j s≠0):zAc 102 [jnA j,.d (.s s)] (Qu7 (addC j s)) []:=by
 refine zAC func102 fun w0 Z=>?_
 obtain⟨h1,h2,h3,h4,h5⟩:=Qcy hj
 have a:(j.count.toNat:Int)=j.count:=by have:=YW j.bytes;omega
 have b:=Qs j.count.toNat
 rw[a]at b
 have c:(hdT j.count.toNat++s++[10]).length<=1000000012:=by
  have:=Qs j.count.toNat
  simp only[hdT,Xaa,Xap];omega
 have e:(QU j.count++({ data:=#[32] }:ByteArray).data.toList++s++({ data:=#[10] }:ByteArray).data.toList).length=(hdT j.count.toNat++s++[10]).length:=by rw[hdT,a]
 repeat'(first|(refine zhm fun hb=>?_;try exact zab)|refine zUtp ?_|refine zg2 ?_ ?_|refine zqj Ve ?_|refine kc (Qb7 hs) rfl rfl ?_|intro _)
 ·rw[QrT hb]
  refine zr [] ?_ ?_
  repeat'(first|exact ze3|refine ze2 ?_ ?_|refine ze4 ?_|exact ze5|fail)
  all_goals exact zp rfl
 ·rw[QuZ hj (by assumption) (by omega)]
  refine zr [] ?_ ?_
  repeat'(first|exact ze3|refine ze2 ?_ ?_|refine ze4 ?_|exact ze5|fail)
  all_goals exact zp rfl
 ·exact absurd (Qvd hj (by assumption) (by omega)) hc
theorem Qvp{j:Q7}{s:List UInt8}(hc:addC j s=0):zAc 102 [jnA j,.d (.s s)] [jnR (Yq j s),zI 0] (jnO (Yq j s)):=by
 refine zAC func102 fun w0 Z=>?_
 obtain⟨f,e,hl⟩:=Qdh hc
 have i:=Qjp e
 obtain⟨h1,h2,h3,h4,h5⟩:=Qcy f
 have a:(j.count.toNat:Int)=j.count:=by have:=YW j.bytes;omega
 have b:=Qs j.count.toNat
 rw[a]at b
 have g:(hdT j.count.toNat++s++[10]).length<=1000000012:=by
  have:=Qs j.count.toNat
  simp only[hdT,Xaa,Xap];omega
 have h:(QU j.count++({ data:=#[32] }:ByteArray).data.toList++s++({ data:=#[10] }:ByteArray).data.toList).length=(hdT j.count.toNat++s++[10]).length:=by rw[hdT,a]
 have hr:=YW j.bytes
 have c:=Qb7 (s:=s) (by omega)
 rw[e]at c
 repeat'(first|(refine zhm fun hb=>?_;try exact zab)|refine zUtp ?_|refine zg2 ?_ ?_|refine zqj Ve ?_|refine kc (WQ rfl (by omega)) rfl rfl ?_|intro _)
 refine zr [30] ?_ ?_
 repeat'(first|exact ze3|refine ze2 ?_ ?_|refine ze4 ?_|exact ze5|fail)
 all_goals exact zp (by first|rfl|(rw[Qc1];simp only[Yq,hdT,a];done)|(simp only[Yq];omega))
theorem Qjj{j:Q7}{s:List UInt8}(hc:addC j s=0):zAc 237 [jnA j,.d (.s s)] [jnR (Yq j s),zI 0] (jnO (Yq j s)):=by
 refine zAC func237 fun w0 Z=>?_
 obtain⟨g,i,hl⟩:=Qdh hc
 have k:=Qjp i
 obtain⟨h1,h2,h3,h4,h5⟩:=Qcy g
 have a:(j.count.toNat:Int)=j.count:=by have:=YW j.bytes;omega
 have e:=Qs j.count.toNat
 rw[a]at e
 have hr:=YW j.bytes
 have f:=Zz (s:=s) (by omega)
 rw[i]at f
 have c:=VT (j:=j) (by omega)
 rw[g]at c
 have h:([]++QK j.bytes++QK (hdT j.count.toNat++s++[10])).length=j.bytes.length+(hdT j.count.toNat++s++[10]).length:=by rw[XaR,Xaa,Qy,Qy]
 have b:=VF (n:=j.count.toNat) (s:=s) (by omega)
 rw[a]at b
 repeat'(first|(refine zhm fun hb=>?_;try exact zab)|refine Qd ?_|(apply zch;exact zcg)|exact zhk|refine zg3 ?_ ?_|intro _)
 refine zr [16] ?_ ?_
 repeat'(first|exact ze3|refine ze2 ?_ ?_|refine ze4 ?_|exact ze5|fail)
 all_goals exact zp (by first|rfl|(rw[XaR,Qc1];simp only[Yq];done)|(simp only[Yq];omega))
theorem QgO{j:Q7}{s:List UInt8}(h:j.bytes.length<=1000000000)(hs:s.length<=1000000000)(hc:addC j s≠0):zAc 237 [jnA j,.d (.s s)] (Qu7 (addC j s)) []:=by
 refine zAC func237 fun w0 Z=>?_
 have b:=VT (j:=j) h
 cases a:jnOk j with
 | false=>
  rw[a]at b
  rw[QyD a]
  repeat'(first|(refine zhm fun hb=>?_;try exact zab)|refine Qd ?_|(apply zch;exact zcg)|exact zhk|refine zg3 ?_ ?_|intro _)
  refine zr [] ?_ ?_
  repeat'(first|exact ze3|refine ze2 ?_ ?_|refine ze4 ?_|exact ze5|fail)
  all_goals exact zp rfl
 | true=>
  rw[a]at b
  obtain⟨h1,h2,h3,h4,h5⟩:=Qcy a
  have e:(j.count.toNat:Int)=j.count:=by have:=YW j.bytes;omega
  have g:(hdT j.count.toNat++s++[10]).length<=1000000012:=by
   have:=Qs j.count.toNat
   simp only[hdT,Xaa,Xap];omega
  have f:([]++QK j.bytes++QK (hdT j.count.toNat++s++[10])).length=j.bytes.length+(hdT j.count.toNat++s++[10]).length:=by rw[XaR,Xaa,Qy,Qy]
  have c:=VF (n:=j.count.toNat) (s:=s) hs
  rw[e]at c
  repeat'(first|(refine zhm fun hb=>?_;try exact zab)|refine Qd ?_|(apply zch;exact zcg)|exact zhk|refine zg3 ?_ ?_|refine kc (Zz hs) rfl rfl ?_|refine kq (Zz hs) rfl rfl ?_|intro _)
  ·rw[QrT (by assumption)]
   refine zr [] ?_ ?_
   repeat'(first|exact ze3|refine ze2 ?_ ?_|refine ze4 ?_|exact ze5|fail)
   all_goals exact zp rfl
  ·rw[QuZ a (by assumption) (by omega)]
   refine zr [] ?_ ?_
   repeat'(first|exact ze3|refine ze2 ?_ ?_|refine ze4 ?_|exact ze5|fail)
   all_goals exact zp rfl
  ·exact absurd (Qvd a (by assumption) (by omega)) hc
end
end Go.Proofs.YtkdniahincpmaaaGreat
