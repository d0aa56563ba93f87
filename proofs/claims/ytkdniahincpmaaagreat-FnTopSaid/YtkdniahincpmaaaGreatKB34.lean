/-
  Commands as text: words, jobs, CmdText, both.
-/
import Derived.Test.YtkdniahincpmaaaGreatKB33
set_option maxRecDepth 100000
set_option maxHeartbeats 16000000
namespace Go.Proofs.YtkdniahincpmaaaGreat
open Go Go.RowKit Tryz
section
attribute [local irreducible] AWp QI OpOk ACalls ChA QsOk MCalls EnC PY
def wj(l:List (List UInt8)):Nat->List UInt8
 | 0=>[]
 | i+1=>(if 0<i then wj l i++[32]else wj l i)++nth l i
def Z8(l:List (List UInt8)):List UInt8:=wj l l.length
def Qji(l:List (List UInt8)):Prop:=l.length<=100/\∀w∈l,w.length<=1000
theorem Qih{l:List (List UInt8)}(h:Qji l){i:Nat}(hi:i<l.length):(nth l i).length<=1000:=by
 unfold nth
 rw[List.getD_eq_getElem?_getD,List.getElem?_eq_getElem hi]
 exact h.2 _ (Xbk hi)
theorem QuL{l:List (List UInt8)}(h:Qji l):∀(i:Nat),i<=l.length->(wj l i).length<=i*1001
 | 0,_=>by simp[wj]
 | i+1,hi=>by
  have h1:=QuL h i (by omega)
  have h2:=Qih h (i:=i) (by omega)
  simp only[wj]
  split
  ·simp only[Xaa,Xap];omega
  ·simp only[Xaa];omega
theorem QyY{l:List (List UInt8)}{i:Nat}(h:0<i):wj l (i+1)=wj l i++[32]++nth l i:=by simp only[wj];rw[if_pos h]
theorem Qzm{l:List (List UInt8)}{i:Nat}(h:¬0<i):wj l (i+1)=wj l i++nth l i:=by simp only[wj];rw[if_neg h]
theorem XH{l:List (List UInt8)}(h:Qji l):zAc 185 [zL (strE l)] [.d (.s (Z8 l))] []:=by
 refine zAC func185 fun w0 Z=>?_
 have a:=h.1
 repeat'(first|(refine zhm fun hb=>?_;try exact zab)|refine zUtp ?_|refine zg2 ?_ ?_|intro _)
 refine Qa (fun(i:Nat)=>⟨22,[(3,.d (.s (wj l i))),(6,zL (strE l)),(7,zI l.length),(8,zI (i:Int))],[]⟩) (fun i=>i<=l.length) (fun i=>l.length-i) 0 (by omega) ?_ ?_
 ·refine⟨rfl,?_,?_,rfl⟩
  repeat'(first|exact ze3|refine ze2 ?_ ?_|refine ze4 ?_|exact ze5|fail)
  all_goals exact zp rfl
 ·intro i b
  have c:=QuL h i b
  have e:i<l.length->(nth l i).length<=1000:=fun h'=>Qih h h'
  repeat'(first|(refine zhm fun hb=>?_;try exact zab)|refine zUtp ?_|refine zg2 ?_ ?_|intro _)
  ·refine⟨i+1,by omega,by omega,?_⟩
   refine⟨rfl,?_,?_,rfl⟩
   repeat'(first|exact ze3|refine ze2 ?_ ?_|refine ze4 ?_|exact ze5|fail)
   exact zp (QyY (by omega)).symm
  ·refine⟨i+1,by omega,by omega,?_⟩
   refine⟨rfl,?_,?_,rfl⟩
   repeat'(first|exact ze3|refine ze2 ?_ ?_|refine ze4 ?_|exact ze5|fail)
   exact zp (Qzm (by omega)).symm
  ·obtain rfl:i=l.length:=by omega
   refine zr [] ?_ ?_
   repeat'(first|exact ze3|refine ze2 ?_ ?_|refine ze4 ?_|exact ze5|fail)
   all_goals exact zp rfl
def VE:List (List UInt8):=[[],[115,117,98,109,105,116],[99,97,110,99,101,108],[100,111,110,101],[102,97,105,108],[114,101,115,117,109,101],[108,105,99],[103,111]]
def cmdW(k:Int):List UInt8:=if 1<=k/\k<=7 then nth VE k.toNat else[]
theorem Qjo{k:Int}:zAc 188 [zI k] [.d (.s (cmdW k))] []:=by
 by_cases h:1<=k/\k<=7
 ·obtain rfl|rfl|rfl|rfl|rfl|rfl|rfl:k=1\/k=2\/k=3\/k=4\/k=5\/k=6\/k=7:=by omega
  all_goals
   refine zAC func188 fun w0 Z=>?_
   repeat'(first|(refine zhm fun hb=>?_;try exact zab)|refine zUto ?_|refine zg2 ?_ ?_|refine zqj QV ?_|intro _)
   all_goals
    refine zr [] ?_ ?_
    repeat'(first|exact ze3|refine ze2 ?_ ?_|refine ze4 ?_|exact ze5|fail)
    all_goals exact zp rfl
 ·refine zAC func188 fun w0 Z=>?_
  repeat'(first|(refine zhm fun hb=>?_;try exact zab)|refine zUto ?_|refine zg2 ?_ ?_|refine zqj QV ?_|intro _)
  all_goals
   refine zr [] ?_ ?_
   repeat'(first|exact ze3|refine ze2 ?_ ?_|refine ze4 ?_|exact ze5|fail)
   exact zp (if_neg (by omega)).symm
theorem Qqc:zAc 98 [] [.row 0] [(0,.row 9 (strE VE) true)]:=by
 refine zAC func98 fun w0 Z=>?_
 repeat'(first|(refine zhm fun hb=>?_;try exact zab)|refine zUto ?_|refine zg2 ?_ ?_|intro _)
 refine zr [1] ?_ ?_
 repeat'(first|exact ze3|refine ze2 ?_ ?_|refine ze4 ?_|exact ze5|fail)
 all_goals exact zp rfl
def Qcb(j:Job):List (List UInt8):=[QU j.id,QU j.prio,QU j.nodes,Jj j.need,Jj j.lic,QU j.wall,QU j.level]
def jobT(j:Job):List UInt8:=Z8 (Qcb j)
theorem Qeh(j:Job):Qji (Qcb j):=by
 refine⟨by simp[Qcb],fun w hw=>?_⟩
 have h1:=Qs j.id
 have h2:=Qs j.prio
 have h3:=Qs j.nodes
 have h4:=Ye j.need
 have h5:=Ye j.lic
 have h6:=Qs j.wall
 have h7:=Qs j.level
 simp only[Qcb,Xai,Xb9,or_false]at hw
 rcases hw with rfl|rfl|rfl|rfl|rfl|rfl|rfl <;> omega
theorem QlW(j:Job):(jobT j).length<=900:=by
 have h1:=Qs j.id
 have h2:=Qs j.prio
 have h3:=Qs j.nodes
 have h4:=Ye j.need
 have h5:=Ye j.lic
 have h6:=Qs j.wall
 have h7:=Qs j.level
 simp[jobT,Z8,Qcb,wj,nth]
 omega
theorem short2{a b:List UInt8}(h1:a.length<=1000)(h2:b.length<=1000):Qji [a,b]:=by
 refine⟨by simp,fun w hw=>?_⟩
 simp only[Xai,Xb9,or_false]at hw
 rcases hw with rfl|rfl <;> omega
theorem QgS(k:Int):(cmdW k).length<=6:=by
 unfold cmdW
 split
 ·rename_i h
  obtain rfl|rfl|rfl|rfl|rfl|rfl|rfl:k=1\/k=2\/k=3\/k=4\/k=5\/k=6\/k=7:=by omega
  all_goals decide
 ·simp
theorem Qix{j:Job}:zAc 186 [jobA j] [.d (.s (jobT j))] []:=by
 refine zAC func186 fun w0 Z=>?_
 repeat'(first|(refine zhm fun hb=>?_;try exact zab)|refine Qbn ?_|(apply zch;exact zcg)|exact zhk|refine zg3 ?_ ?_|refine zqd Ve ?_|refine kc (ZI (v:=j.need)) rfl rfl ?_|refine kc (ZI (v:=j.lic)) rfl rfl ?_|refine kc (XH (l:=Qcb j) (Qeh j)) rfl rfl ?_|refine kq (ZI (v:=j.need)) rfl rfl ?_|refine kq (ZI (v:=j.lic)) rfl rfl ?_|refine kq (XH (l:=Qcb j) (Qeh j)) rfl rfl ?_|intro _)
 refine zr [] ?_ ?_
 repeat'(first|exact ze3|refine ze2 ?_ ?_|refine ze4 ?_|exact ze5|fail)
 all_goals exact zp rfl
def Qq(c:Cmd):List UInt8:=if Jx c=true then(if c.kind=1 then Z8 [cmdW 1,jobT c.job]else if c.kind=6 then Z8 [cmdW 6,Jj c.lic]else Z8 [cmdW c.kind,QU c.n]) else[]
theorem Qf7{c:Cmd}(h:Jx c=false):Qq c=[]:=if_neg (by simp[h])
theorem QaZ{c:Cmd}(h:Jx c=true)(hk:c.kind=1):Qq c=Z8 [cmdW 1,jobT c.job]:=by rw[Qq,if_pos h,if_pos hk]
theorem Qby{c:Cmd}(h:Jx c=true)(hk:c.kind=6):Qq c=Z8 [cmdW 6,Jj c.lic]:=by rw[Qq,if_pos h,if_neg (by omega),if_pos hk]
theorem Qbz{c:Cmd}(h:Jx c=true)(h1:¬c.kind=1)(h6:¬c.kind=6):Qq c=Z8 [cmdW c.kind,QU c.n]:=by rw[Qq,if_pos h,if_neg h1,if_neg h6]
theorem Wx{c:Cmd}:zAc 103 [cmdA c] [.d (.s (Qq c))] []:=by
 refine zAC func103 fun w0 Z=>?_
 have h1:=QlW c.job
 have h2:=Ye c.lic
 have h3:=Qs c.n
 have h4:=QgS c.kind
 repeat'(first|(refine zhm fun hb=>?_;try exact zab)|refine Qbn ?_|(apply zch;exact zcg)|exact zhk|refine zg3 ?_ ?_|refine kc (Qkv (c:=c)) rfl rfl ?_|refine kc (Qix (j:=c.job)) rfl rfl ?_|refine kc (ZI (v:=c.lic)) rfl rfl ?_|refine zqd Ve ?_|refine zqd Qjo ?_|refine kc (XH (l:=[cmdW 1,jobT c.job]) (short2 (by decide) (by omega))) rfl rfl ?_|refine kc (XH (l:=[cmdW 6,Jj c.lic]) (short2 (by decide) (by omega))) rfl rfl ?_|refine kc (XH (l:=[cmdW c.kind,QU c.n]) (short2 (by omega) (by omega))) rfl rfl ?_|refine kq (Qkv (c:=c)) rfl rfl ?_|refine kq (Qix (j:=c.job)) rfl rfl ?_|refine kq (ZI (v:=c.lic)) rfl rfl ?_|refine kq (XH (l:=[cmdW 1,jobT c.job]) (short2 (by decide) (by omega))) rfl rfl ?_|refine kq (XH (l:=[cmdW 6,Jj c.lic]) (short2 (by decide) (by omega))) rfl rfl ?_|refine kq (XH (l:=[cmdW c.kind,QU c.n]) (short2 (by omega) (by omega))) rfl rfl ?_|intro _)
 ·refine zr [] ?_ ?_
  repeat'(first|exact ze3|refine ze2 ?_ ?_|refine ze4 ?_|exact ze5|fail)
  exact zp (Qf7 (by assumption)).symm
 ·refine zr [] ?_ ?_
  repeat'(first|exact ze3|refine ze2 ?_ ?_|refine ze4 ?_|exact ze5|fail)
  exact zp (QaZ (by assumption) (by assumption)).symm
 ·refine zr [] ?_ ?_
  repeat'(first|exact ze3|refine ze2 ?_ ?_|refine ze4 ?_|exact ze5|fail)
  exact zp (Qby (by assumption) (by assumption)).symm
 ·refine zr [] ?_ ?_
  repeat'(first|exact ze3|refine ze2 ?_ ?_|refine ze4 ?_|exact ze5|fail)
  exact zp (Qbz (by assumption) (by assumption) (by assumption)).symm
theorem JV(a b:List UInt8):Z8 [a,b]=a++[32]++b:=by simp[Z8,wj,nth]
theorem Qrs(j:Job):jobT j=QU j.id++[32]++QU j.prio++[32]++QU j.nodes++[32]++Jj j.need++[32]++Jj j.lic++[32]++QU j.wall++[32]++QU j.level:=by simp[jobT,Z8,Qcb,wj,nth]
theorem QkF{c:Cmd}(h:Jx c=true):1<=c.kind/\c.kind<=7:=by
 unfold Jx at h
 repeat' split at h
 all_goals first|omega|cases h
theorem ZC{c:Cmd}:zAc 37 [cmdA c] [.d (.s (Qq c))] []:=by
 refine zAC func37 fun w0 Z=>?_
 cases a:Jx c with
 | false=>
  repeat'(first|(refine zhm fun hb=>?_;try exact zab)|refine Qbn ?_|(apply zch;exact zcg)|exact zhk|refine zg3 ?_ ?_|refine kc (Qfb (c:=c)) rfl rfl ?_|refine kq (Qfb (c:=c)) rfl rfl ?_|intro _)
  ·refine zr [] ?_ ?_
   repeat'(first|exact ze3|refine ze2 ?_ ?_|refine ze4 ?_|exact ze5|fail)
   exact zp (Qf7 a).symm
  ·rw[a]at hb;cases hb
 | true=>
  have b:=QkF a
  have g:VE.length=8:=rfl
  have f:(nth VE c.kind.toNat).length<=6:=by have:=QgS c.kind;rwa [cmdW,if_pos b]at this
  have h1:=Qs c.job.id
  have h2:=Qs c.job.prio
  have h3:=Qs c.job.nodes
  have h4:=Ye c.job.need
  have h5:=Ye c.job.lic
  have h6:=Qs c.job.wall
  have h7:=Qs c.job.level
  have h8:=Ye c.lic
  have h9:=Qs c.n
  repeat'(first|(apply QP 3;kernel_rfl;exact rfl)|(refine zhm fun hb=>?_;try exact zab)|refine Qbn ?_|(apply zch;exact zcg)|exact zhk|refine zg3 ?_ ?_|refine kc (Qfb (c:=c)) rfl rfl ?_|refine zqd Qqc ?_|refine zqd VO ?_|refine kc (W5 (v:=c.job.need)) rfl rfl ?_|refine kc (W5 (v:=c.job.lic)) rfl rfl ?_|refine kc (W5 (v:=c.lic)) rfl rfl ?_|refine kq (Qfb (c:=c)) rfl rfl ?_|refine kq (W5 (v:=c.job.need)) rfl rfl ?_|refine kq (W5 (v:=c.job.lic)) rfl rfl ?_|refine kq (W5 (v:=c.lic)) rfl rfl ?_|intro _)
  ·rw[a]at hb;cases hb
  ·refine zr [] ?_ ?_
   repeat'(first|exact ze3|refine ze2 ?_ ?_|refine ze4 ?_|exact ze5|fail)
   refine zp ?_
   have e:nth VE c.kind.toNat=cmdW 1:=by rw[hb];rfl
   rw[QaZ a hb,JV,e,Qrs]
   simp
  ·refine zr [] ?_ ?_
   repeat'(first|exact ze3|refine ze2 ?_ ?_|refine ze4 ?_|exact ze5|fail)
   refine zp ?_
   have e:nth VE c.kind.toNat=cmdW 6:=by rw[hb];rfl
   rw[Qby a hb,JV,e]
  ·refine zr [] ?_ ?_
   repeat'(first|exact ze3|refine ze2 ?_ ?_|refine ze4 ?_|exact ze5|fail)
   refine zp ?_
   have e:nth VE c.kind.toNat=cmdW c.kind:=by rw[cmdW,if_pos b]
   rw[Qbz a (by assumption) hb,JV,e]
theorem QeU(s:List UInt8)(q:Int):∀(i:Nat),∀x∈(pst s q i).1,x.length<=s.length
 | 0,x,h=>by simp[pst]at h
 | i+1,x,h=>by
  simp only[pst]at h
  split at h
  ·rw[Xag]at h
   rcases h with h|h
   ·exact QeU s q i x h
   ·rw[XaH]at h
    subst h
    simp only[XaL,Xah];omega
  ·exact QeU s q i x h
theorem QaT{s:List UInt8}{q:Int}{x:List UInt8}(h:x∈parts s q):x.length<=s.length:=by
 unfold parts at h
 rw[Xag]at h
 rcases h with h|h
 ·exact QeU s q _ x h
 ·rw[XaH]at h
  subst h
  simp only[XaL,Xah];omega
theorem Qor{l:List (List UInt8)}{n:Nat}(h:∀x∈l,x.length<=n)(j:Nat):(nth l j).length<=n:=by
 unfold nth
 rw[List.getD_eq_getElem?_getD]
 by_cases a:j<l.length
 ·rw[List.getElem?_eq_getElem a];exact h _ (Xbk a)
 ·rw[List.getElem?_eq_none (by omega)];exact Xad _
theorem QjO{s:List UInt8}(q:Int)(j:Nat):(nth (parts s q) j).length<=s.length:=Qor (fun _ h=>QaT h) j
theorem Qi8{l:List (List UInt8)}{n j:Nat}(h:l.length<=n):((strE l).take n).drop j=strE (l.drop j):=by
 rw[Xas (by rw[YH];exact h)]
 simp[strE,List.map_drop]
theorem Qjh(s:List UInt8)(q:Int):0<(parts s q).length:=by simp[parts]
def kd(w:List UInt8):Nat->Nat
 | 0=>0
 | i+1=>if 0<i/\nth VE i=w then i else kd w i
theorem Qvc{w:List UInt8}{i:Nat}(h:0<i)(hw:nth VE i=w):kd w (i+1)=i:=if_pos ⟨h,hw⟩
theorem Qvh{w:List UInt8}{i:Nat}(hw:¬(0<i/\nth VE i=w)):kd w (i+1)=kd w i:=if_neg hw
def Qnn(w:List (List UInt8)):Job:=⟨(QQ (nth w 0)).1,(QQ (nth w 1)).1,(QQ (nth w 2)).1,(YV (nth w 3)).1,(YV (nth w 4)).1,(QQ (nth w 5)).1,(QQ (nth w 6)).1⟩
def job0:Job:=⟨0,0,0,vec0,vec0,0,0⟩
def cmd0:Cmd:=⟨0,job0,0,vec0⟩
abbrev kdS(s:List UInt8):Nat:=kd (nth (parts s 32) 0) 8
def cJ(s:List UInt8):Cmd:=⟨kdS s,Qnn ((parts s 32).drop 1),0,vec0⟩
def cL(s:List UInt8):Cmd:=⟨kdS s,job0,0,(YV (nth (parts s 32) 1)).1⟩
def cN(s:List UInt8):Cmd:=⟨kdS s,job0,(QQ (nth (parts s 32) 1)).1,vec0⟩
def cZ(s:List UInt8):Cmd:=⟨kdS s,job0,0,vec0⟩
def Qcp(s:List UInt8):Cmd:=if(kdS s:Int)=1/\((parts s 32).length:Int)=8 then cJ s else if(kdS s:Int)=6/\((parts s 32).length:Int)=2 then cL s else if((parts s 32).length:Int)=2 then cN s else cZ s
theorem QgK{s:List UInt8}(h1:(kdS s:Int)=1)(h2:((parts s 32).length:Int)=8):Qcp s=cJ s:=if_pos ⟨h1,h2⟩
theorem QdR{s:List UInt8}(h1:(kdS s:Int)=6)(h2:((parts s 32).length:Int)=2):Qcp s=cL s:=by
 unfold Qcp;rw[if_neg (by omega),if_pos ⟨h1,h2⟩]
theorem QeY{s:List UInt8}(h1:¬(kdS s:Int)=6)(h2:((parts s 32).length:Int)=2):Qcp s=cN s:=by
 unfold Qcp;rw[if_neg (by omega),if_neg (by omega),if_pos h2]
theorem QhT{s:List UInt8}(h1:¬((kdS s:Int)=1/\((parts s 32).length:Int)=8))(h2:¬((parts s 32).length:Int)=2):Qcp s=cZ s:=by
 unfold Qcp;rw[if_neg h1,if_neg (by omega),if_neg h2]
def JR(s:List UInt8):Cmd×Bool:=if s=[]\/¬Qq (Qcp s)=s then(cmd0,false) else(Qcp s,true)
theorem Qd8{s:List UInt8}(h:s=[]):JR s=(cmd0,false):=if_pos (Or.inl h)
theorem Wc{s:List UInt8}{c:Cmd}(hc:Qcp s=c)(h:¬Qq c=s):JR s=(cmd0,false):=if_pos (Or.inr (by rw[hc];exact h))
theorem YO{s:List UInt8}{c:Cmd}(hc:Qcp s=c)(hn:¬s=[])(h:Qq c=s):JR s=(c,true):=by
 unfold JR
 rw[hc,if_neg (by rintro (a|a);exact hn a;exact a h)]
theorem QiQ{l:List (List UInt8)}{es:List (List D)}(he:es=strE l)(h7:7<=l.length)(hl:∀x∈l,x.length<=1000000000):zAc 191 [zL es] [jobA (Qnn l)] []:=by
 subst he
 refine zAC func191 fun w0 Z=>?_
 repeat'(first|(refine zhm fun hb=>?_;try exact zab)|refine zUto ?_|refine zg2 ?_ ?_|refine zqj QeL ?_|refine kc (QdT (Qor hl _)) rfl rfl ?_|intro _)
 refine zr [] ?_ ?_
 repeat'(first|exact ze3|refine ze2 ?_ ?_|refine ze4 ?_|exact ze5|fail)
 all_goals exact zp rfl
theorem Qfq{s:List UInt8}(h:s.length<=1000000000):zAc 107 [.d (.s s)] [cmdA (JR s).1,.d (.b (JR s).2)] []:=by
 refine zAC func107 fun w0 Z=>?_
 have f:=Qjh s 32
 have a:=fun j=>QjO (s:=s) 32 j
 repeat'(first|(refine zhm fun hb=>?_;try exact zab)|refine Qd ?_|(apply zch;exact zcg)|exact zhk|refine zg3 ?_ ?_|refine kc (QgG (by omega)) rfl rfl ?_|refine kq (QgG (by omega)) rfl rfl ?_|intro _)
 refine Qr 8 rfl ?_
 refine Qa (fun(i:Nat)=>⟨74,[(0,.d (.s s)),(2,.ptr 2 0),(4,zL (strE (parts s 32))),(5,.ptr 5 0),(6,zI (i:Int))],[(2,.box 42 (List.replicate 16 (zI 0))),(5,.box 42 (zI (kd (nth (parts s 32) 0) i:Nat)::List.replicate 15 (zI 0)))]⟩) (fun i=>1<=i/\i<=8) (fun i=>8-i) 1 (by omega) ?_ ?_
 ·refine⟨rfl,?_,?_,rfl⟩
  repeat'(first|exact ze3|refine ze2 ?_ ?_|refine ze4 ?_|exact ze5|fail)
  all_goals exact zp rfl
 ·intro i hi
  rcases(by omega:i<=7\/i=8)with h7|rfl
  ·have e:cmdW (i:Int)=nth VE i:=by rw[cmdW,if_pos (by omega)];rfl
   repeat'(first|(refine zhm fun hb=>?_;try exact zab)|refine Qd ?_|(apply zch;exact zcg)|exact zhk|refine zg3 ?_ ?_|refine zqd Qjo ?_|intro _)
   ·refine⟨i+1,by omega,by omega,?_⟩
    refine⟨rfl,?_,?_,rfl⟩
    repeat'(first|exact ze3|refine ze2 ?_ ?_|refine ze4 ?_|exact ze5|fail)
    all_goals exact zp (by rw[Qvc (by omega) (by rw[<-e];exact hb)])
   ·refine⟨i+1,by omega,by omega,?_⟩
    refine⟨rfl,?_,?_,rfl⟩
    repeat'(first|exact ze3|refine ze2 ?_ ?_|refine ze4 ?_|exact ze5|fail)
    all_goals exact zp (by rw[Qvh (by rw[<-e];exact fun h=>hb h.2)])
  ·repeat'(first|(refine zhm fun hb=>?_;try exact zab)|refine Qd ?_|(apply zch;exact zcg)|exact zhk|refine zg3 ?_ ?_|(refine kc (QiQ (l:=(parts s 32).drop 1) (Qi8 (by omega)) (by rw[XaL];omega) (fun x hx=>Xal (QaT (XaN hx)) h)) rfl rfl ?_)|refine kc (QdT (Xal (a 1) h)) rfl rfl ?_|refine zqd QeL ?_|refine kc (Wx (c:=cJ s)) rfl rfl ?_|refine kc (Wx (c:=cL s)) rfl rfl ?_|refine kc (Wx (c:=cN s)) rfl rfl ?_|refine kc (Wx (c:=cZ s)) rfl rfl ?_|refine kq (QiQ (l:=(parts s 32).drop 1) (Qi8 (by omega)) (by rw[XaL];omega) (fun x hx=>Xal (QaT (XaN hx)) h)) rfl rfl ?_|refine kq (QdT (Xal (a 1) h)) rfl rfl ?_|refine kq (Wx (c:=cJ s)) rfl rfl ?_|refine kq (Wx (c:=cL s)) rfl rfl ?_|refine kq (Wx (c:=cN s)) rfl rfl ?_|refine kq (Wx (c:=cZ s)) rfl rfl ?_|intro _)
   all_goals
    first
     | rw[Qd8 (by assumption)]
     | rw[Wc (QgK (by assumption) (by assumption)) (by assumption)]
     | rw[Wc (QdR (by assumption) (by assumption)) (by assumption)]
     | rw[Wc (QeY (by assumption) (by assumption)) (by assumption)]
     | rw[Wc (QhT (s:=s) (by unfold kdS;omega) (by assumption)) (by assumption)]
     | rw[YO (QgK (by assumption) (by assumption)) (by assumption) (by assumption)]
     | rw[YO (QdR (by assumption) (by assumption)) (by assumption) (by assumption)]
     | rw[YO (QeY (by assumption) (by assumption)) (by assumption) (by assumption)]
     | rw[YO (QhT (s:=s) (by unfold kdS;omega) (by assumption)) (by assumption) (by assumption)]
    refine zr [] ?_ ?_
    repeat'(first|exact ze3|refine ze2 ?_ ?_|refine ze4 ?_|exact ze5|fail)
    all_goals exact zp rfl
theorem Qoo(l:List (List UInt8))(j:Nat):nth (l.drop 1) j=nth l (j+1):=by
 unfold nth
 rw[List.getD_eq_getElem?_getD,List.getD_eq_getElem?_getD,List.getElem?_drop,Nat.add_comm]
theorem QpR{s:List UInt8}(h:s.length<=1000000000):zAc 312 [.d (.s s)] [vecA (YV s).1,.d (.b (YV s).2)] []:=by
 rw[<-QiC]
 exact Qq5 h
abbrev cJs(s:List UInt8):Cmd:=⟨kdS s,⟨(QQ (nth (parts s 32) 1)).1,(QQ (nth (parts s 32) 2)).1,(QQ (nth (parts s 32) 3)).1,(YV (nth (parts s 32) 4)).1,(YV (nth (parts s 32) 5)).1,(QQ (nth (parts s 32) 6)).1,(QQ (nth (parts s 32) 7)).1⟩,0,vec0⟩
theorem QxV(s:List UInt8):cJ s=cJs s:=by
 unfold cJ Qnn
 simp only[Qoo]
theorem Ql3{s:List UInt8}(h1:(kdS s:Int)=1)(h2:((parts s 32).length:Int)=8):Qcp s=cJs s:=by rw[QgK h1 h2,QxV]
theorem Qrl{s:List UInt8}(h:s.length<=1000000000):zAc 281 [.d (.s s)] [cmdA (JR s).1,.d (.b (JR s).2)] []:=by
 refine zAC func281 fun w0 Z=>?_
 have e:=Qjh s 32
 have a:=fun j=>QjO (s:=s) 32 j
 have f:VE.length=8:=rfl
 repeat'(first|(refine zhm fun hb=>?_;try exact zab)|refine zUtp ?_|refine zg2 ?_ ?_|refine kc (Qks (by omega)) rfl rfl ?_|refine zqj Qqc ?_|intro _)
 refine Qr 9 rfl ?_
 refine Qr 11 rfl ?_
 refine Qa (fun(i:Nat)=>⟨138,[(0,.d (.s s)),(2,.ptr 2 0),(4,zL (strE (parts s 32))),(5,.ptr 5 0),(11,zL (strE VE)),(12,zI 8),(13,zI (i:Int))],[(2,.box 42 (List.replicate 16 (zI 0))),(5,.box 42 (zI (kd (nth (parts s 32) 0) i:Nat)::List.replicate 15 (zI 0)))]⟩) (fun i=>i<=8) (fun i=>8-i) 0 (by omega) ?_ ?_
 ·refine⟨rfl,?_,?_,rfl⟩
  repeat'(first|exact ze3|refine ze2 ?_ ?_|refine ze4 ?_|exact ze5|fail)
  all_goals exact zp rfl
 ·intro i hi
  rcases(by omega:i<=7\/i=8)with h7|rfl
  ·repeat'(first|(refine zhm fun hb=>?_;try exact zab)|refine zUtp ?_|refine zg2 ?_ ?_|intro _)
   ·refine⟨i+1,by omega,by omega,?_⟩
    refine⟨rfl,?_,?_,rfl⟩
    repeat'(first|exact ze3|refine ze2 ?_ ?_|refine ze4 ?_|exact ze5|fail)
    all_goals exact zp (by rw[Qvc (by omega) (by assumption)])
   ·refine⟨i+1,by omega,by omega,?_⟩
    refine⟨rfl,?_,?_,rfl⟩
    repeat'(first|exact ze3|refine ze2 ?_ ?_|refine ze4 ?_|exact ze5|fail)
    all_goals exact zp (by rw[Qvh (fun h=>by first|contradiction|exact absurd h.2 (by assumption)|omega)])
   ·refine⟨i+1,by omega,by omega,?_⟩
    refine⟨rfl,?_,?_,rfl⟩
    repeat'(first|exact ze3|refine ze2 ?_ ?_|refine ze4 ?_|exact ze5|fail)
    all_goals exact zp (by rw[Qvh (fun h=>by first|contradiction|exact absurd h.2 (by assumption)|omega)])
  ·repeat'(first|(refine zhm fun hb=>?_;try exact zab)|refine zUtp ?_|refine zg2 ?_ ?_|refine kc (QpR (Xal (a _) h)) rfl rfl ?_|refine zqj QjH ?_|refine kc (ZC (c:=cJs s)) rfl rfl ?_|refine kc (ZC (c:=cL s)) rfl rfl ?_|refine kc (ZC (c:=cN s)) rfl rfl ?_|refine kc (ZC (c:=cZ s)) rfl rfl ?_|intro _)
   all_goals
    first
     | rw[Qd8 (by assumption)]
     | rw[Wc (Ql3 (by assumption) (by assumption)) (by assumption)]
     | rw[Wc (QdR (by assumption) (by assumption)) (by assumption)]
     | rw[Wc (QeY (by assumption) (by assumption)) (by assumption)]
     | rw[Wc (QhT (s:=s) (by unfold kdS;omega) (by assumption)) (by assumption)]
     | rw[YO (Ql3 (by assumption) (by assumption)) (by assumption) (by assumption)]
     | rw[YO (QdR (by assumption) (by assumption)) (by assumption) (by assumption)]
     | rw[YO (QeY (by assumption) (by assumption)) (by assumption) (by assumption)]
     | rw[YO (QhT (s:=s) (by unfold kdS;omega) (by assumption)) (by assumption) (by assumption)]
    refine zr [] ?_ ?_
    repeat'(first|exact ze3|refine ze2 ?_ ?_|refine ze4 ?_|exact ze5|fail)
    all_goals exact zp rfl
end
end Go.Proofs.YtkdniahincpmaaaGreat
