/-
  The journal's bytes: ReadRecords, both.
-/
import Derived.Test.YtihgfennoalocaaGreatKB7
import Derived.Test.YtihgfennoalocaaGreatKB37
import Derived.Test.YtihgfennoalocaaGreatKB41
import Derived.Test.YtihgfennoalocaaGreatKB35
set_option maxRecDepth 100000
set_option maxHeartbeats 16000000
namespace Go.Proofs.YtihgfennoalocaaGreat
open Go Go.RowKit Tryz
section
attribute [local irreducible] AWp QJ OpOk ACalls ChA QsOk MCalls EnC PY
abbrev nlAt(b:List UInt8)(i:Nat):Prop:=((nth b i).toNat:Int)=10
def eolF(b:List UInt8):Nat->Nat->Nat
 | 0,i=>i
 | f+1,i=>if nlAt b i then i else eolF b f (i+1)
def eol(b:List UInt8)(i:Nat):Nat:=eolF b (b.length-i) i
theorem ZF{b:List UInt8}{i:Nat}(hi:i<b.length)(h:nlAt b i):eol b i=i:=by
 unfold eol
 obtain⟨f,hf⟩:∃f,b.length-i=f+1:=⟨b.length-i-1,by omega⟩
 rw[hf,eolF,if_pos h]
theorem Vm{b:List UInt8}{i:Nat}(hi:i<b.length)(h:¬nlAt b i):eol b i=eol b (i+1):=by
 unfold eol
 obtain⟨f,hf⟩:∃f,b.length-i=f+1:=⟨b.length-i-1,by omega⟩
 rw[hf,eolF,if_neg h,show b.length-(i+1)=f by omega]
theorem XP{b:List UInt8}:eol b b.length=b.length:=by
 unfold eol
 rw[XbX,eolF]
theorem QjU(b:List UInt8):∀(k i:Nat),i+k=b.length->i<=eol b i/\eol b i<=b.length/\(eol b i<b.length->nlAt b (eol b i))
 | 0,i,h=>by
  obtain rfl:i=b.length:=by omega
  rw[XP]
  exact⟨Xam _,Xam _,fun h=>by omega⟩
 | k+1,i,h=>by
  by_cases hn:nlAt b i
  ·rw[ZF (by omega) hn]
   exact⟨Xam _,by omega,fun _=>hn⟩
  ·rw[Vm (by omega) hn]
   have:=QjU b k (i+1) (by omega)
   exact⟨by omega,this.2⟩
theorem Qe7{b:List UInt8}{i:Nat}(h:i<=b.length):i<=eol b i/\eol b i<=b.length/\(eol b i<b.length->nlAt b (eol b i)):=QjU b (b.length-i) i (by omega)
abbrev hdT(n:Nat):List UInt8:=Jn n++[32]
theorem Qpa(n:Nat):(hdT n).length<=11:=by
 have:=Qv n
 simp[hdT];omega
abbrev subB(b:List UInt8)(i j:Nat):List UInt8:=(b.take j).drop i
theorem Qec{b:List UInt8}(h:b.length<=1000000000)(i j:Nat):(subB b i j).length<=1000000000:=by
 simp only[XaN,Xai];omega
abbrev RdSt:=List (List UInt8)×Nat
def rdOk(b:List UInt8)(x:RdSt):Prop:=eol b x.2<b.length/\(hdT x.1.length).length<=eol b x.2-x.2/\subB b x.2 (x.2+(hdT x.1.length).length)=hdT x.1.length/\YK (subB b (x.2+(hdT x.1.length).length) (eol b x.2))=true
instance (b:List UInt8) (x:RdSt):Decidable (rdOk b x):=by unfold rdOk;infer_instance
def JW(b:List UInt8)(x:RdSt):RdSt:=(x.1++[subB b (x.2+(hdT x.1.length).length) (eol b x.2)],eol b x.2+1)
def rdF(b:List UInt8):Nat->RdSt->RdSt
 | 0,x=>x
 | f+1,x=>if rdOk b x then rdF b f (JW b x)else x
def Q8(b:List UInt8):RdSt:=rdF b (b.length+1) ([],0)
def rdAt(b:List UInt8)(x:RdSt):Prop:=x.2<=b.length/\x.1.length<=x.2/\∃f,b.length<f+x.2/\rdF b f x=Q8 b
theorem Qhn(b:List UInt8):rdAt b ([],0):=⟨Xab _,Xam _,b.length+1,by simp,rfl⟩
theorem Xn{b:List UInt8}{x:RdSt}(h:rdAt b x)(hk:rdOk b x):rdAt b (JW b x):=by
 obtain⟨h1,h2,f,h3,h4⟩:=h
 have he:=Qe7 h1
 have k1:=hk.1
 have k2:=hk.2.1
 cases f with
 | zero=>omega
 | succ f=>
  rw[rdF,if_pos hk]at h4
  refine⟨by simp only[JW];omega,by simp only[JW,Xac,XaG];omega,f,by simp only[JW];omega,h4⟩
theorem XM{b:List UInt8}{x:RdSt}(h:rdAt b x)(hk:¬rdOk b x):Q8 b=x:=by
 obtain⟨h1,h2,f,h3,h4⟩:=h
 cases f with
 | zero=>omega
 | succ f=>rw[rdF,if_neg hk]at h4;exact h4.symm
theorem QaP{b:List UInt8}{x:RdSt}(h:rdAt b x)(he:eol b x.2=b.length):Q8 b=x:=XM h (fun hk=>by have:=hk.1;omega)
theorem WF{b:List UInt8}(h:b.length<=1000000000):zAc 59 [zL (QG b)] [.row 0,zI (Q8 b).2] [(0,.row 9 (strE (Q8 b).1) true)]:=by
 refine zAC func59 fun w0 Z=>?_
 repeat'(first|(refine zhm fun hb=>?_;try exact zab)|refine zUtp ?_|refine zg2 ?_ ?_|intro _|fail)
 refine Qa (fun(x:RdSt)=>⟨77,[(0,zL (QG b)),(4,.row 10),(5,zI x.2),(6,zI x.2)],[(10,.row 9 (strE x.1) true)]⟩) (rdAt b) (fun x=>b.length-x.2) ([],0) (Qhn b) ?_ ?_
 ·refine⟨rfl,?_,?_,rfl⟩
  repeat'(first|exact ze3|refine ze2 ?_ ?_|refine ze4 ?_|exact ze5|fail)
  all_goals exact zp rfl
 ·intro x hx
  have hx1:=hx.1
  have hx2:=hx.2.1
  have he:=Qe7 hx1
  repeat'(first|(refine zhm fun hb=>?_;try exact zab)|refine zUtp ?_|refine zg2 ?_ ?_|intro _|fail)
  ·refine Qa (fun(i:Nat)=>⟨77,[(0,zL (QG b)),(4,.row 10),(5,zI x.2),(6,zI x.2),(7,zI i)],[(10,.row 9 (strE x.1) true)]⟩) (fun i=>x.2<=i/\i<=b.length/\eol b i=eol b x.2) (fun i=>b.length-i) x.2 (by exact⟨by omega,hx1,rfl⟩) ?_ ?_
   ·refine⟨rfl,?_,?_,rfl⟩
    repeat'(first|exact ze3|refine ze2 ?_ ?_|refine ze4 ?_|exact ze5|fail)
    all_goals exact zp rfl
   ·rintro i ⟨hi1,hi2,hi3⟩
    have hl:=Qpa x.1.length
    have hnl:=Qv x.1.length
    have hdl:(Jn (x.1.length:Int)++({ data:=#[32] }:ByteArray).data.toList).length=(hdT x.1.length).length:=rfl
    have hE:nlAt b i->i<b.length->eol b x.2=i:=fun hn hl=>by rw[<-hi3];exact ZF hl hn
    repeat'(first|(refine zhm fun hb=>?_;try exact zab)|refine zUtp ?_|refine zg2 ?_ ?_|refine zqj W9 ?_|refine kc (QaZ (Qec h _ _)) rfl rfl ?_|intro _|fail)
    ·refine⟨i+1,⟨by omega,by omega,by rw[<-hi3];exact(Vm (by omega) (by assumption)).symm⟩,by omega,?_⟩
     refine⟨rfl,?_,?_,rfl⟩
     repeat'(first|exact ze3|refine ze2 ?_ ?_|refine ze4 ?_|exact ze5|fail)
     all_goals exact zp rfl
    ·have hE:=hE (by assumption) (by omega)
     have hR:=XM hx fun hk=>by have:=hk.2.1;omega
     rw[hR]
     refine zr [10] ?_ ?_
     repeat'(first|exact ze3|refine ze2 ?_ ?_|refine ze4 ?_|exact ze5|fail)
     all_goals exact zp rfl
    ·have hE:=hE (by assumption) (by omega)
     have hR:=XM hx fun hk=>by have:=hk.2.2.1;contradiction
     rw[hR]
     refine zr [10] ?_ ?_
     repeat'(first|exact ze3|refine ze2 ?_ ?_|refine ze4 ?_|exact ze5|fail)
     all_goals exact zp rfl
    ·have hE:=hE (by assumption) (by omega)
     have hR:=XM hx fun hk=>by have:=hk.2.2.2;rw[hE]at this;exact Bool.noConfusion (Eq.trans (Eq.symm this) (by assumption:YK (subB b (x.2+(hdT x.1.length).length) i)=false))
     rw[hR]
     refine zr [10] ?_ ?_
     repeat'(first|exact ze3|refine ze2 ?_ ?_|refine ze4 ?_|exact ze5|fail)
     all_goals exact zp rfl
    ·have hE:=hE (by assumption) (by omega)
     have hok:rdOk b x:=⟨by omega,by omega,by assumption,by rw[hE];assumption⟩
     refine⟨JW b x,Xn hx hok,by simp only[JW];omega,?_⟩
     refine⟨rfl,?_,?_,rfl⟩
     repeat'(first|exact ze3|refine ze2 ?_ ?_|refine ze4 ?_|exact ze5|fail)
     all_goals exact zp (by simp only[JW,hE,<-VC])
    ·have hR:=QaP hx (by rw[<-hi3,show i=b.length by omega,XP])
     rw[hR]
     refine zr [10] ?_ ?_
     repeat'(first|exact ze3|refine ze2 ?_ ?_|refine ze4 ?_|exact ze5|fail)
     all_goals exact zp rfl
  ·have hR:=QaP hx (by rw[show x.2=b.length by omega,XP])
   rw[hR]
   refine zr [10] ?_ ?_
   repeat'(first|exact ze3|refine ze2 ?_ ?_|refine ze4 ?_|exact ze5|fail)
   all_goals exact zp rfl
theorem Zh{n:Nat}{s:List UInt8}(h:s.length<=1000000000):zAc 179 [zI n,.d (.s s)] [.d (.s (hdT n++s++[10]))] []:=by
 refine zAC func179 fun w0 Z=>?_
 have hnl:=Qv n
 repeat'(first|(refine zhm fun hb=>?_;try exact zab)|refine zUto ?_|refine zg2 ?_ ?_|refine zqj VV ?_|intro _|fail)
 refine zr [] ?_ ?_
 repeat'(first|exact ze3|refine ze2 ?_ ?_|refine ze4 ?_|exact ze5|fail)
 all_goals exact zp rfl
def QsH(b:List UInt8)(i:Nat):Int:=if eol b i<b.length then((eol b i+1:Nat):Int)else -1
theorem Qda{b:List UInt8}{i:Nat}(h:eol b i<b.length):QsH b i=((eol b i+1:Nat):Int):=if_pos h
theorem QfV{b:List UInt8}{i:Nat}(h:¬eol b i<b.length):QsH b i = -1:=if_neg h
theorem Qaz{b:List UInt8}{at':Nat}{x:Int}(h:b.length<=1000000000)(ha:at'<=b.length)(hx:QsH b at'=x):zAc 176 [zL (QG b),zI at'] [zI x] []:=by
 subst hx
 refine zAC func176 fun w0 Z=>?_
 repeat'(first|(refine zhm fun hb=>?_;try exact zab)|refine zUtp ?_|refine zg2 ?_ ?_|intro _|fail)
 refine Qa (fun(i:Nat)=>⟨20,[(0,zL (QG b)),(5,zI i)],[]⟩) (fun i=>at'<=i/\i<=b.length/\eol b i=eol b at') (fun i=>b.length-i) at' (by exact⟨Xam _,ha,rfl⟩) ?_ ?_
 ·refine⟨rfl,?_,?_,rfl⟩
  repeat'(first|exact ze3|refine ze2 ?_ ?_|refine ze4 ?_|exact ze5|fail)
  all_goals exact zp rfl
 ·rintro i ⟨hi1,hi2,hi3⟩
  repeat'(first|(refine zhm fun hb=>?_;try exact zab)|refine zUtp ?_|refine zg2 ?_ ?_|intro _|fail)
  ·have hE:eol b at'=i:=by rw[<-hi3];exact ZF (by omega) (by assumption)
   rw[Qda (by omega),hE]
   refine zr [] ?_ ?_
   repeat'(first|exact ze3|refine ze2 ?_ ?_|refine ze4 ?_|exact ze5|fail)
   all_goals exact zp rfl
  ·refine⟨i+1,⟨by omega,by omega,by rw[<-hi3];exact(Vm (by omega) (by assumption)).symm⟩,by omega,?_⟩
   refine⟨rfl,?_,?_,rfl⟩
   repeat'(first|exact ze3|refine ze2 ?_ ?_|refine ze4 ?_|exact ze5|fail)
   all_goals exact zp rfl
  ·have hE:eol b at'=b.length:=by rw[<-hi3,show i=b.length by omega,XP]
   rw[QfV (by omega)]
   refine zr [] ?_ ?_
   repeat'(first|exact ze3|refine ze2 ?_ ?_|refine ze4 ?_|exact ze5|fail)
   all_goals exact zp rfl
theorem QpJ{b:List UInt8}{i k e:Nat}(h1:i+k<=e)(h2:e<b.length):subB b i (e+1)=subB b i (i+k)++subB b (i+k) e++[nth b e]:=by
 have hn:b[e]=nth b e:=by rw[nth,List.getD_eq_getElem?_getD,List.getElem?_eq_getElem h2];rfl
 rw[<-hn]
 unfold subB
 rw[XaB h2,XbG (by rw[Xai];omega)]
 congr 1
 have e1:b.take (i+k)=(b.take e).take (i+k):=by rw[Xcz,Xcv h1]
 rw[e1]
 have h3:(b.take e).length=e:=by rw[Xai];omega
 generalize b.take e=t at h3
 have:=XaO k (t.drop i)
 rw[Xb3,List.take_drop]at this
 exact this.symm
theorem Qk9{b:List UInt8}{i e:Nat}{hd:List UInt8}(h1:i+hd.length<=e)(h2:e<b.length)(hn:nlAt b e):hd++subB b (i+hd.length) e++[10]=subB b i (e+1)↔subB b i (i+hd.length)=hd:=by
 have h10:nth b e=10:=by
  apply UInt8.toNat_inj.1
  have:((nth b e).toNat:Int)=10:=hn
  have h3:(10:UInt8).toNat=10:=rfl
  omega
 rw[QpJ h1 h2,h10]
 constructor
 ·intro h
  have h3:=List.append_cancel_right h
  exact(List.append_cancel_right h3).symm
 ·intro h
  rw[h]
theorem Ze{b:List UInt8}(h:b.length<=1000000000):zAc 121 [zL (QG b)] [.row 0,zI (Q8 b).2] [(0,.row 9 (strE (Q8 b).1) true)]:=by
 refine zAC func121 fun w0 Z=>?_
 repeat'(first|(refine zhm fun hb=>?_;try exact zab)|refine Qe ?_|(apply zch;exact zcg)|exact zhk|refine zg3 ?_ ?_|intro _|fail)
 refine Qa (fun(x:RdSt)=>⟨60,[(0,zL (QG b)),(4,.row 9),(5,zI x.2)],[(9,.row 9 (strE x.1) true)]⟩) (rdAt b) (fun x=>b.length-x.2) ([],0) (Qhn b) ?_ ?_
 ·refine⟨rfl,?_,?_,rfl⟩
  repeat'(first|exact ze3|refine ze2 ?_ ?_|refine ze4 ?_|exact ze5|fail)
  all_goals exact zp rfl
 ·intro x hx
  have hx1:=hx.1
  have hx2:=hx.2.1
  have he:=Qe7 hx1
  have hl:=Qpa x.1.length
  have hnl:=Qv x.1.length
  have hdl:(hdT x.1.length).length=(Jn (x.1.length:Int)).length+1:=by simp[hdT]
  by_cases hE:eol b x.2<b.length
  ·repeat'(first|(refine zhm fun hb=>?_;try exact zab)|refine Qe ?_|(apply zch;exact zcg)|exact zhk|refine zg3 ?_ ?_|refine kc (Qaz h hx1 (Qda hE)) rfl rfl ?_|refine zqd VV ?_|refine kc (VU (Qec h _ _)) rfl rfl ?_|refine kc (Zh (Qec h _ _)) rfl rfl ?_|refine kq (Qaz h hx1 (Qda hE)) rfl rfl ?_|refine kq (VU (Qec h _ _)) rfl rfl ?_|refine kq (Zh (Qec h _ _)) rfl rfl ?_|intro _|fail)
   ·have hR:=XM hx fun hk=>by have:=hk.2.1;omega
    rw[hR]
    refine zr [9] ?_ ?_
    repeat'(first|exact ze3|refine ze2 ?_ ?_|refine ze4 ?_|exact ze5|fail)
    all_goals exact zp rfl
   ·have hR:=XM hx fun hk=>by have h9:=hk.2.2.2;rw[hdl]at h9;exact Bool.noConfusion (Eq.trans (Eq.symm h9) hb)
    rw[hR]
    refine zr [9] ?_ ?_
    repeat'(first|exact ze3|refine ze2 ?_ ?_|refine ze4 ?_|exact ze5|fail)
    all_goals exact zp rfl
   ·have hR:=XM hx fun hk=>by have h9:=(Qk9 (hd:=hdT x.1.length) (by omega) hE (he.2.2 hE)).2 hk.2.2.1;rw[hdl]at h9;exact hb h9
    rw[hR]
    refine zr [9] ?_ ?_
    repeat'(first|exact ze3|refine ze2 ?_ ?_|refine ze4 ?_|exact ze5|fail)
    all_goals exact zp rfl
   ·rename_i hk1 hk2 hk3
    have hok:rdOk b x:=⟨hE,by omega,(Qk9 (hd:=hdT x.1.length) (by omega) hE (he.2.2 hE)).1 (by rw[hdl];assumption),by rw[hdl];assumption⟩
    refine⟨JW b x,Xn hx hok,by simp only[JW];omega,?_⟩
    refine⟨rfl,?_,?_,rfl⟩
    repeat'(first|exact ze3|refine ze2 ?_ ?_|refine ze4 ?_|exact ze5|fail)
    ·exact zp rfl
    ·exact zp (by rw[VC];simp only[JW,hdl,Xcc])
  ·repeat'(first|(refine zhm fun hb=>?_;try exact zab)|refine Qe ?_|(apply zch;exact zcg)|exact zhk|refine zg3 ?_ ?_|refine kc (Qaz h hx1 (QfV hE)) rfl rfl ?_|refine zqd VV ?_|refine kq (Qaz h hx1 (QfV hE)) rfl rfl ?_|intro _|fail)
   have hR:=QaP hx (by omega)
   rw[hR]
   refine zr [9] ?_ ?_
   repeat'(first|exact ze3|refine ze2 ?_ ?_|refine ze4 ?_|exact ze5|fail)
   all_goals exact zp rfl
def jnOk(j:QV):Bool:=decide ((j.bytes.length:Int)<=40000)&&inB j.synced 0 j.bytes.length&&decide (((Q8 j.bytes).2:Int)=j.bytes.length)&&decide (((Q8 j.bytes).1.length:Int)=j.count)
theorem Qdf{j:QV}(h:j.bytes.length<=1000000000):zAc 58 [jnA j] [.d (.b (jnOk j))] []:=by
 refine zAC func58 fun w0 Z=>?_
 repeat'(first|(refine zhm fun hb=>?_;try exact zab)|refine zUtp ?_|refine zg2 ?_ ?_|refine zqj QX ?_|refine kc (WF (b:=j.bytes) h) rfl rfl ?_|intro _|fail)
 all_goals
  refine zr [] ?_ ?_
  repeat'(first|exact ze3|refine ze2 ?_ ?_|refine ze4 ?_|exact ze5|fail)
  refine zp ?_
  first
   | done
   | (rw[Bool.eq_iff_iff];simp[jnOk,inB]at *;omega)
   | (rw[Bool.eq_iff_iff];simp[jnOk,inB]at *;done)
   | (rw[Bool.eq_iff_iff];simp[jnOk,inB]at *;simp[*];done)
   | (rw[Bool.eq_iff_iff];simp[jnOk,inB]at *;simp[*];omega)
   | (rw[Bool.eq_iff_iff];simp[jnOk,inB]at *;simp[*];intros;omega)
theorem V5{j:QV}(h:j.bytes.length<=1000000000):zAc 53 [jnA j] [.d (.b (jnOk j))] []:=by
 refine zAC func53 fun w0 Z=>?_
 repeat'(first|(refine zhm fun hb=>?_;try exact zab)|refine zUtp ?_|refine zg2 ?_ ?_|refine kc (Ze (b:=j.bytes) h) rfl rfl ?_|intro _|fail)
 all_goals
  refine zr [] ?_ ?_
  repeat'(first|exact ze3|refine ze2 ?_ ?_|refine ze4 ?_|exact ze5|fail)
  refine zp ?_
  first
   | done
   | (rw[Bool.eq_iff_iff];simp[jnOk,inB]at *;omega)
   | (rw[Bool.eq_iff_iff];simp[jnOk,inB]at *;done)
   | (rw[Bool.eq_iff_iff];simp[jnOk,inB]at *;simp[*];done)
   | (rw[Bool.eq_iff_iff];simp[jnOk,inB]at *;simp[*];omega)
   | (rw[Bool.eq_iff_iff];simp[jnOk,inB]at *;simp[*];intros;omega)
end
end Go.Proofs.YtihgfennoalocaaGreat
