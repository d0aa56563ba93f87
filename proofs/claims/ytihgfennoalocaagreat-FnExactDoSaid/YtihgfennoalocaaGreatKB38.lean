/-
  Commands as text: words, jobs, CmdText, both.
-/
import Derived.Test.YtihgfennoalocaaGreatKB7
import Derived.Test.YtihgfennoalocaaGreatKB37
set_option maxRecDepth 100000
set_option maxHeartbeats 16000000
namespace Go.Proofs.YtihgfennoalocaaGreat
open Go Go.RowKit Tryz
section
attribute [local irreducible] AWp QJ OpOk ACalls ChA QsOk MCalls EnC PY
def wj(l:List (List UInt8)):Nat->List UInt8
 | 0=>[]
 | i+1=>(if 0<i then wj l i++[32]else wj l i)++nth l i
def Zj(l:List (List UInt8)):List UInt8:=wj l l.length
def Qhg(l:List (List UInt8)):Prop:=l.length<=100/\∀w∈l,w.length<=1000
theorem Qh3{l:List (List UInt8)}(h:Qhg l){i:Nat}(hi:i<l.length):(nth l i).length<=1000:=by
 unfold nth
 rw[List.getD_eq_getElem?_getD,List.getElem?_eq_getElem hi]
 exact h.2 _ (Xbf hi)
theorem Qr9{l:List (List UInt8)}(h:Qhg l):∀(i:Nat),i<=l.length->(wj l i).length<=i*1001
 | 0,_=>by simp[wj]
 | i+1,hi=>by
  have h1:=Qr9 h i (by omega)
  have h2:=Qh3 h (i:=i) (by omega)
  simp only[wj]
  split
  ·simp only[Xac,XaG];omega
  ·simp only[Xac];omega
theorem Qvr{l:List (List UInt8)}{i:Nat}(h:0<i):wj l (i+1)=wj l i++[32]++nth l i:=by simp only[wj];rw[if_pos h]
theorem Qvn{l:List (List UInt8)}{i:Nat}(h:¬0<i):wj l (i+1)=wj l i++nth l i:=by simp only[wj];rw[if_neg h]
theorem ZD{l:List (List UInt8)}(h:Qhg l):zAc 212 [zL (strE l)] [.d (.s (Zj l))] []:=by
 refine zAC func212 fun w0 Z=>?_
 have h100:=h.1
 repeat'(first|(refine zhm fun hb=>?_;try exact zab)|refine zUtp ?_|refine zg2 ?_ ?_|intro _|fail)
 refine Qa (fun(i:Nat)=>⟨22,[(3,.d (.s (wj l i))),(6,zL (strE l)),(7,zI l.length),(8,zI (i:Int))],[]⟩) (fun i=>i<=l.length) (fun i=>l.length-i) 0 (by omega) ?_ ?_
 ·refine⟨rfl,?_,?_,rfl⟩
  repeat'(first|exact ze3|refine ze2 ?_ ?_|refine ze4 ?_|exact ze5|fail)
  all_goals exact zp rfl
 ·intro i hi
  have hw1:=Qr9 h i hi
  have hw2:i<l.length->(nth l i).length<=1000:=fun h'=>Qh3 h h'
  repeat'(first|(refine zhm fun hb=>?_;try exact zab)|refine zUtp ?_|refine zg2 ?_ ?_|intro _|fail)
  ·refine⟨i+1,by omega,by omega,?_⟩
   refine⟨rfl,?_,?_,rfl⟩
   repeat'(first|exact ze3|refine ze2 ?_ ?_|refine ze4 ?_|exact ze5|fail)
   exact zp (Qvr (by omega)).symm
  ·refine⟨i+1,by omega,by omega,?_⟩
   refine⟨rfl,?_,?_,rfl⟩
   repeat'(first|exact ze3|refine ze2 ?_ ?_|refine ze4 ?_|exact ze5|fail)
   exact zp (Qvn (by omega)).symm
  ·obtain rfl:i=l.length:=by omega
   refine zr [] ?_ ?_
   repeat'(first|exact ze3|refine ze2 ?_ ?_|refine ze4 ?_|exact ze5|fail)
   all_goals exact zp rfl
def WT:List (List UInt8):=[[],[115,117,98,109,105,116],[99,97,110,99,101,108],[100,111,110,101],[102,97,105,108],[114,101,115,117,109,101],[108,105,99],[103,111]]
def cmdW(k:Int):List UInt8:=if 1<=k/\k<=7 then nth WT k.toNat else[]
theorem QhG{k:Int}:zAc 197 [zI k] [.d (.s (cmdW k))] []:=by
 by_cases h:1<=k/\k<=7
 ·obtain rfl|rfl|rfl|rfl|rfl|rfl|rfl:k=1\/k=2\/k=3\/k=4\/k=5\/k=6\/k=7:=by omega
  all_goals
   refine zAC func197 fun w0 Z=>?_
   repeat'(first|(refine zhm fun hb=>?_;try exact zab)|refine zUto ?_|refine zg2 ?_ ?_|refine zqj QX ?_|intro _|fail)
   all_goals
    refine zr [] ?_ ?_
    repeat'(first|exact ze3|refine ze2 ?_ ?_|refine ze4 ?_|exact ze5|fail)
    all_goals exact zp rfl
 ·refine zAC func197 fun w0 Z=>?_
  repeat'(first|(refine zhm fun hb=>?_;try exact zab)|refine zUto ?_|refine zg2 ?_ ?_|refine zqj QX ?_|intro _|fail)
  all_goals
   refine zr [] ?_ ?_
   repeat'(first|exact ze3|refine ze2 ?_ ?_|refine ze4 ?_|exact ze5|fail)
   exact zp (if_neg (by omega)).symm
theorem QmR:zAc 180 [] [.row 0] [(0,.row 9 (strE WT) true)]:=by
 refine zAC func180 fun w0 Z=>?_
 repeat'(first|(refine zhm fun hb=>?_;try exact zab)|refine zUto ?_|refine zg2 ?_ ?_|intro _|fail)
 refine zr [1] ?_ ?_
 repeat'(first|exact ze3|refine ze2 ?_ ?_|refine ze4 ?_|exact ze5|fail)
 all_goals exact zp rfl
def QhV(j:Job):List (List UInt8):=[Jn j.id,Jn j.prio,Jn j.nodes,YG j.need,YG j.lic,Jn j.wall,Jn j.level]
def jobT(j:Job):List UInt8:=Zj (QhV j)
theorem QdD(j:Job):Qhg (QhV j):=by
 refine⟨by simp[QhV],fun w hw=>?_⟩
 have h1:=Qv j.id
 have h2:=Qv j.prio
 have h3:=Qv j.nodes
 have h4:=J6 j.need
 have h5:=J6 j.lic
 have h6:=Qv j.wall
 have h7:=Qv j.level
 simp only[QhV,Xaj,Xb9,or_false]at hw
 rcases hw with rfl|rfl|rfl|rfl|rfl|rfl|rfl <;> omega
theorem QjG(j:Job):(jobT j).length<=900:=by
 have h1:=Qv j.id
 have h2:=Qv j.prio
 have h3:=Qv j.nodes
 have h4:=J6 j.need
 have h5:=J6 j.lic
 have h6:=Qv j.wall
 have h7:=Qv j.level
 simp[jobT,Zj,QhV,wj,nth]
 omega
theorem short2{a b:List UInt8}(h1:a.length<=1000)(h2:b.length<=1000):Qhg [a,b]:=by
 refine⟨by simp,fun w hw=>?_⟩
 simp only[Xaj,Xb9,or_false]at hw
 rcases hw with rfl|rfl <;> omega
theorem QfT(k:Int):(cmdW k).length<=6:=by
 unfold cmdW
 split
 ·rename_i h
  obtain rfl|rfl|rfl|rfl|rfl|rfl|rfl:k=1\/k=2\/k=3\/k=4\/k=5\/k=6\/k=7:=by omega
  all_goals decide
 ·simp
theorem Qhj{j:Job}:zAc 213 [jobA j] [.d (.s (jobT j))] []:=by
 refine zAC func213 fun w0 Z=>?_
 repeat'(first|(refine zhm fun hb=>?_;try exact zab)|refine Qb2 ?_|(apply zch;exact zcg)|exact zhk|refine zg3 ?_ ?_|refine zqd W9 ?_|refine kc (VR (v:=j.need)) rfl rfl ?_|refine kc (VR (v:=j.lic)) rfl rfl ?_|refine kc (ZD (l:=QhV j) (QdD j)) rfl rfl ?_|refine kq (VR (v:=j.need)) rfl rfl ?_|refine kq (VR (v:=j.lic)) rfl rfl ?_|refine kq (ZD (l:=QhV j) (QdD j)) rfl rfl ?_|intro _|fail)
 refine zr [] ?_ ?_
 repeat'(first|exact ze3|refine ze2 ?_ ?_|refine ze4 ?_|exact ze5|fail)
 all_goals exact zp rfl
def Q3(c:Cmd):List UInt8:=if JP c=true then(if c.kind=1 then Zj [cmdW 1,jobT c.job]else if c.kind=6 then Zj [cmdW 6,YG c.lic]else Zj [cmdW c.kind,Jn c.n]) else[]
theorem QeO{c:Cmd}(h:JP c=false):Q3 c=[]:=if_neg (by simp[h])
theorem QgO{c:Cmd}(h:JP c=true)(hk:c.kind=1):Q3 c=Zj [cmdW 1,jobT c.job]:=by rw[Q3,if_pos h,if_pos hk]
theorem Qhl{c:Cmd}(h:JP c=true)(hk:c.kind=6):Q3 c=Zj [cmdW 6,YG c.lic]:=by rw[Q3,if_pos h,if_neg (by omega),if_pos hk]
theorem Qig{c:Cmd}(h:JP c=true)(h1:¬c.kind=1)(h6:¬c.kind=6):Q3 c=Zj [cmdW c.kind,Jn c.n]:=by rw[Q3,if_pos h,if_neg h1,if_neg h6]
theorem Y8{c:Cmd}:zAc 137 [cmdA c] [.d (.s (Q3 c))] []:=by
 refine zAC func137 fun w0 Z=>?_
 have h1:=QjG c.job
 have h2:=J6 c.lic
 have h3:=Qv c.n
 have h4:=QfT c.kind
 repeat'(first|(refine zhm fun hb=>?_;try exact zab)|refine Qb2 ?_|(apply zch;exact zcg)|exact zhk|refine zg3 ?_ ?_|refine kc (Qjd (c:=c)) rfl rfl ?_|refine kc (Qhj (j:=c.job)) rfl rfl ?_|refine kc (VR (v:=c.lic)) rfl rfl ?_|refine zqd W9 ?_|refine zqd QhG ?_|refine kc (ZD (l:=[cmdW 1,jobT c.job]) (short2 (by decide) (by omega))) rfl rfl ?_|refine kc (ZD (l:=[cmdW 6,YG c.lic]) (short2 (by decide) (by omega))) rfl rfl ?_|refine kc (ZD (l:=[cmdW c.kind,Jn c.n]) (short2 (by omega) (by omega))) rfl rfl ?_|refine kq (Qjd (c:=c)) rfl rfl ?_|refine kq (Qhj (j:=c.job)) rfl rfl ?_|refine kq (VR (v:=c.lic)) rfl rfl ?_|refine kq (ZD (l:=[cmdW 1,jobT c.job]) (short2 (by decide) (by omega))) rfl rfl ?_|refine kq (ZD (l:=[cmdW 6,YG c.lic]) (short2 (by decide) (by omega))) rfl rfl ?_|refine kq (ZD (l:=[cmdW c.kind,Jn c.n]) (short2 (by omega) (by omega))) rfl rfl ?_|intro _|fail)
 ·refine zr [] ?_ ?_
  repeat'(first|exact ze3|refine ze2 ?_ ?_|refine ze4 ?_|exact ze5|fail)
  exact zp (QeO (by assumption)).symm
 ·refine zr [] ?_ ?_
  repeat'(first|exact ze3|refine ze2 ?_ ?_|refine ze4 ?_|exact ze5|fail)
  exact zp (QgO (by assumption) (by assumption)).symm
 ·refine zr [] ?_ ?_
  repeat'(first|exact ze3|refine ze2 ?_ ?_|refine ze4 ?_|exact ze5|fail)
  exact zp (Qhl (by assumption) (by assumption)).symm
 ·refine zr [] ?_ ?_
  repeat'(first|exact ze3|refine ze2 ?_ ?_|refine ze4 ?_|exact ze5|fail)
  exact zp (Qig (by assumption) (by assumption) (by assumption)).symm
theorem WL(a b:List UInt8):Zj [a,b]=a++[32]++b:=by simp[Zj,wj,nth]
theorem Qs1(j:Job):jobT j=Jn j.id++[32]++Jn j.prio++[32]++Jn j.nodes++[32]++YG j.need++[32]++YG j.lic++[32]++Jn j.wall++[32]++Jn j.level:=by simp[jobT,Zj,QhV,wj,nth]
theorem Qty{c:Cmd}(h:JP c=true):1<=c.kind/\c.kind<=7:=by
 unfold JP at h
 repeat' split at h
 all_goals first|omega|cases h
theorem ZJ{c:Cmd}:zAc 135 [cmdA c] [.d (.s (Q3 c))] []:=by
 refine zAC func135 fun w0 Z=>?_
 cases hok:JP c with
 | false=>
  repeat'(first|(refine zhm fun hb=>?_;try exact zab)|refine Qb2 ?_|(apply zch;exact zcg)|exact zhk|refine zg3 ?_ ?_|refine kc (Qc8 (c:=c)) rfl rfl ?_|refine kq (Qc8 (c:=c)) rfl rfl ?_|intro _|fail)
  ·refine zr [] ?_ ?_
   repeat'(first|exact ze3|refine ze2 ?_ ?_|refine ze4 ?_|exact ze5|fail)
   exact zp (QeO hok).symm
  ·rw[hok]at hb;cases hb
 | true=>
  have hk:=Qty hok
  have hw8:WT.length=8:=rfl
  have hk2:(nth WT c.kind.toNat).length<=6:=by have:=QfT c.kind;rwa [cmdW,if_pos hk]at this
  have h1:=Qv c.job.id
  have h2:=Qv c.job.prio
  have h3:=Qv c.job.nodes
  have h4:=J6 c.job.need
  have h5:=J6 c.job.lic
  have h6:=Qv c.job.wall
  have h7:=Qv c.job.level
  have h8:=J6 c.lic
  have h9:=Qv c.n
  repeat'(first|(apply QB 3;kernel_rfl;exact rfl)|(refine zhm fun hb=>?_;try exact zab)|refine Qb2 ?_|(apply zch;exact zcg)|exact zhk|refine zg3 ?_ ?_|refine kc (Qc8 (c:=c)) rfl rfl ?_|refine zqd QmR ?_|refine zqd VV ?_|refine kc (Ws (v:=c.job.need)) rfl rfl ?_|refine kc (Ws (v:=c.job.lic)) rfl rfl ?_|refine kc (Ws (v:=c.lic)) rfl rfl ?_|refine kq (Qc8 (c:=c)) rfl rfl ?_|refine kq (Ws (v:=c.job.need)) rfl rfl ?_|refine kq (Ws (v:=c.job.lic)) rfl rfl ?_|refine kq (Ws (v:=c.lic)) rfl rfl ?_|intro _|fail)
  ·rw[hok]at hb;cases hb
  ·refine zr [] ?_ ?_
   repeat'(first|exact ze3|refine ze2 ?_ ?_|refine ze4 ?_|exact ze5|fail)
   refine zp ?_
   have e:nth WT c.kind.toNat=cmdW 1:=by rw[hb];rfl
   rw[QgO hok hb,WL,e,Qs1]
   simp
  ·refine zr [] ?_ ?_
   repeat'(first|exact ze3|refine ze2 ?_ ?_|refine ze4 ?_|exact ze5|fail)
   refine zp ?_
   have e:nth WT c.kind.toNat=cmdW 6:=by rw[hb];rfl
   rw[Qhl hok hb,WL,e]
  ·refine zr [] ?_ ?_
   repeat'(first|exact ze3|refine ze2 ?_ ?_|refine ze4 ?_|exact ze5|fail)
   refine zp ?_
   have e:nth WT c.kind.toNat=cmdW c.kind:=by rw[cmdW,if_pos hk]
   rw[Qig hok (by assumption) hb,WL,e]
theorem Qc6(s:List UInt8)(q:Int):∀(i:Nat),∀x∈(pst s q i).1,x.length<=s.length
 | 0,x,h=>by simp[pst]at h
 | i+1,x,h=>by
  simp only[pst]at h
  split at h
  ·rw[Xag]at h
   rcases h with h|h
   ·exact Qc6 s q i x h
   ·rw[XaM]at h
    subst h
    simp only[XaN,Xai];omega
  ·exact Qc6 s q i x h
theorem XS{s:List UInt8}{q:Int}{x:List UInt8}(h:x∈parts s q):x.length<=s.length:=by
 unfold parts at h
 rw[Xag]at h
 rcases h with h|h
 ·exact Qc6 s q _ x h
 ·rw[XaM]at h
  subst h
  simp only[XaN,Xai];omega
theorem Qo0{l:List (List UInt8)}{n:Nat}(h:∀x∈l,x.length<=n)(j:Nat):(nth l j).length<=n:=by
 unfold nth
 rw[List.getD_eq_getElem?_getD]
 by_cases hj:j<l.length
 ·rw[List.getElem?_eq_getElem hj];exact h _ (Xbf hj)
 ·rw[List.getElem?_eq_none (by omega)];exact Xab _
theorem Qic{s:List UInt8}(q:Int)(j:Nat):(nth (parts s q) j).length<=s.length:=Qo0 (fun _ h=>XS h) j
theorem QgY{l:List (List UInt8)}{n j:Nat}(h:l.length<=n):((strE l).take n).drop j=strE (l.drop j):=by
 rw[Xaz (by rw[QK];exact h)]
 simp[strE,List.map_drop]
theorem Qhh(s:List UInt8)(q:Int):0<(parts s q).length:=by simp[parts]
def kd(w:List UInt8):Nat->Nat
 | 0=>0
 | i+1=>if 0<i/\nth WT i=w then i else kd w i
theorem QrL{w:List UInt8}{i:Nat}(h:0<i)(hw:nth WT i=w):kd w (i+1)=i:=if_pos ⟨h,hw⟩
theorem QsM{w:List UInt8}{i:Nat}(hw:¬(0<i/\nth WT i=w)):kd w (i+1)=kd w i:=if_neg hw
def QsG(w:List (List UInt8)):Job:=⟨(Jb (nth w 0)).1,(Jb (nth w 1)).1,(Jb (nth w 2)).1,(WA (nth w 3)).1,(WA (nth w 4)).1,(Jb (nth w 5)).1,(Jb (nth w 6)).1⟩
def job0:Job:=⟨0,0,0,vec0,vec0,0,0⟩
def cmd0:Cmd:=⟨0,job0,0,vec0⟩
abbrev kdS(s:List UInt8):Nat:=kd (nth (parts s 32) 0) 8
def cJ(s:List UInt8):Cmd:=⟨kdS s,QsG ((parts s 32).drop 1),0,vec0⟩
def cL(s:List UInt8):Cmd:=⟨kdS s,job0,0,(WA (nth (parts s 32) 1)).1⟩
def cN(s:List UInt8):Cmd:=⟨kdS s,job0,(Jb (nth (parts s 32) 1)).1,vec0⟩
def cZ(s:List UInt8):Cmd:=⟨kdS s,job0,0,vec0⟩
def Qb0(s:List UInt8):Cmd:=if(kdS s:Int)=1/\((parts s 32).length:Int)=8 then cJ s else if(kdS s:Int)=6/\((parts s 32).length:Int)=2 then cL s else if((parts s 32).length:Int)=2 then cN s else cZ s
theorem Qiz{s:List UInt8}(h1:(kdS s:Int)=1)(h2:((parts s 32).length:Int)=8):Qb0 s=cJ s:=if_pos ⟨h1,h2⟩
theorem QfK{s:List UInt8}(h1:(kdS s:Int)=6)(h2:((parts s 32).length:Int)=2):Qb0 s=cL s:=by
 unfold Qb0;rw[if_neg (by omega),if_pos ⟨h1,h2⟩]
theorem Qgv{s:List UInt8}(h1:¬(kdS s:Int)=6)(h2:((parts s 32).length:Int)=2):Qb0 s=cN s:=by
 unfold Qb0;rw[if_neg (by omega),if_neg (by omega),if_pos h2]
theorem Qgw{s:List UInt8}(h1:¬((kdS s:Int)=1/\((parts s 32).length:Int)=8))(h2:¬((parts s 32).length:Int)=2):Qb0 s=cZ s:=by
 unfold Qb0;rw[if_neg h1,if_neg (by omega),if_neg h2]
def J7(s:List UInt8):Cmd×Bool:=if s=[]\/¬Q3 (Qb0 s)=s then(cmd0,false) else(Qb0 s,true)
theorem Qd0{s:List UInt8}(h:s=[]):J7 s=(cmd0,false):=if_pos (Or.inl h)
theorem Y0{s:List UInt8}{c:Cmd}(hc:Qb0 s=c)(h:¬Q3 c=s):J7 s=(cmd0,false):=if_pos (Or.inr (by rw[hc];exact h))
theorem YZ{s:List UInt8}{c:Cmd}(hc:Qb0 s=c)(hn:¬s=[])(h:Q3 c=s):J7 s=(c,true):=by
 unfold J7
 rw[hc,if_neg (by rintro (h1|h1);exact hn h1;exact h1 h)]
theorem Qhi{l:List (List UInt8)}{es:List (List D)}(he:es=strE l)(h7:7<=l.length)(hl:∀x∈l,x.length<=1000000000):zAc 198 [zL es] [jobA (QsG l)] []:=by
 subst he
 refine zAC func198 fun w0 Z=>?_
 repeat'(first|(refine zhm fun hb=>?_;try exact zab)|refine zUto ?_|refine zg2 ?_ ?_|refine zqj Qdi ?_|refine kc (QdJ (Qo0 hl _)) rfl rfl ?_|intro _|fail)
 refine zr [] ?_ ?_
 repeat'(first|exact ze3|refine ze2 ?_ ?_|refine ze4 ?_|exact ze5|fail)
 all_goals exact zp rfl
theorem QdR{s:List UInt8}(h:s.length<=1000000000):zAc 130 [.d (.s s)] [cmdA (J7 s).1,.d (.b (J7 s).2)] []:=by
 refine zAC func130 fun w0 Z=>?_
 have hp0:=Qhh s 32
 have hp:=fun j=>Qic (s:=s) 32 j
 repeat'(first|(refine zhm fun hb=>?_;try exact zab)|refine Qe ?_|(apply zch;exact zcg)|exact zhk|refine zg3 ?_ ?_|refine kc (Qfi (by omega)) rfl rfl ?_|refine kq (Qfi (by omega)) rfl rfl ?_|intro _|fail)
 refine Qs 8 rfl ?_
 refine Qa (fun(i:Nat)=>⟨74,[(0,.d (.s s)),(2,.ptr 2 0),(4,zL (strE (parts s 32))),(5,.ptr 5 0),(6,zI (i:Int))],[(2,.box 74 (List.replicate 16 (zI 0))),(5,.box 74 (zI (kd (nth (parts s 32) 0) i:Nat)::List.replicate 15 (zI 0)))]⟩) (fun i=>1<=i/\i<=8) (fun i=>8-i) 1 (by omega) ?_ ?_
 ·refine⟨rfl,?_,?_,rfl⟩
  repeat'(first|exact ze3|refine ze2 ?_ ?_|refine ze4 ?_|exact ze5|fail)
  all_goals exact zp rfl
 ·intro i hi
  rcases(by omega:i<=7\/i=8)with h7|rfl
  ·have hw:cmdW (i:Int)=nth WT i:=by rw[cmdW,if_pos (by omega)];rfl
   repeat'(first|(refine zhm fun hb=>?_;try exact zab)|refine Qe ?_|(apply zch;exact zcg)|exact zhk|refine zg3 ?_ ?_|refine zqd QhG ?_|intro _|fail)
   ·refine⟨i+1,by omega,by omega,?_⟩
    refine⟨rfl,?_,?_,rfl⟩
    repeat'(first|exact ze3|refine ze2 ?_ ?_|refine ze4 ?_|exact ze5|fail)
    all_goals exact zp (by rw[QrL (by omega) (by rw[<-hw];exact hb)])
   ·refine⟨i+1,by omega,by omega,?_⟩
    refine⟨rfl,?_,?_,rfl⟩
    repeat'(first|exact ze3|refine ze2 ?_ ?_|refine ze4 ?_|exact ze5|fail)
    all_goals exact zp (by rw[QsM (by rw[<-hw];exact fun h=>hb h.2)])
  ·repeat'(first|(refine zhm fun hb=>?_;try exact zab)|refine Qe ?_|(apply zch;exact zcg)|exact zhk|refine zg3 ?_ ?_|(refine kc (Qhi (l:=(parts s 32).drop 1) (QgY (by omega)) (by rw[XaN];omega) (fun x hx=>Xao (XS (XaK hx)) h)) rfl rfl ?_)|refine kc (QdJ (Xao (hp 1) h)) rfl rfl ?_|refine zqd Qdi ?_|refine kc (Y8 (c:=cJ s)) rfl rfl ?_|refine kc (Y8 (c:=cL s)) rfl rfl ?_|refine kc (Y8 (c:=cN s)) rfl rfl ?_|refine kc (Y8 (c:=cZ s)) rfl rfl ?_|refine kq (Qhi (l:=(parts s 32).drop 1) (QgY (by omega)) (by rw[XaN];omega) (fun x hx=>Xao (XS (XaK hx)) h)) rfl rfl ?_|refine kq (QdJ (Xao (hp 1) h)) rfl rfl ?_|refine kq (Y8 (c:=cJ s)) rfl rfl ?_|refine kq (Y8 (c:=cL s)) rfl rfl ?_|refine kq (Y8 (c:=cN s)) rfl rfl ?_|refine kq (Y8 (c:=cZ s)) rfl rfl ?_|intro _|fail)
   all_goals
    first
     | rw[Qd0 (by assumption)]
     | rw[Y0 (Qiz (by assumption) (by assumption)) (by assumption)]
     | rw[Y0 (QfK (by assumption) (by assumption)) (by assumption)]
     | rw[Y0 (Qgv (by assumption) (by assumption)) (by assumption)]
     | rw[Y0 (Qgw (s:=s) (by unfold kdS;omega) (by assumption)) (by assumption)]
     | rw[YZ (Qiz (by assumption) (by assumption)) (by assumption) (by assumption)]
     | rw[YZ (QfK (by assumption) (by assumption)) (by assumption) (by assumption)]
     | rw[YZ (Qgv (by assumption) (by assumption)) (by assumption) (by assumption)]
     | rw[YZ (Qgw (s:=s) (by unfold kdS;omega) (by assumption)) (by assumption) (by assumption)]
    refine zr [] ?_ ?_
    repeat'(first|exact ze3|refine ze2 ?_ ?_|refine ze4 ?_|exact ze5|fail)
    all_goals exact zp rfl
theorem QmZ(l:List (List UInt8))(j:Nat):nth (l.drop 1) j=nth l (j+1):=by
 unfold nth
 rw[List.getD_eq_getElem?_getD,List.getD_eq_getElem?_getD,List.getElem?_drop,Nat.add_comm]
theorem Qno{s:List UInt8}(h:s.length<=1000000000):zAc 157 [.d (.s s)] [vecA (WA s).1,.d (.b (WA s).2)] []:=by
 rw[<-Qib]
 exact Qmo h
abbrev cJs(s:List UInt8):Cmd:=⟨kdS s,⟨(Jb (nth (parts s 32) 1)).1,(Jb (nth (parts s 32) 2)).1,(Jb (nth (parts s 32) 3)).1,(WA (nth (parts s 32) 4)).1,(WA (nth (parts s 32) 5)).1,(Jb (nth (parts s 32) 6)).1,(Jb (nth (parts s 32) 7)).1⟩,0,vec0⟩
theorem QuU(s:List UInt8):cJ s=cJs s:=by
 unfold cJ QsG
 simp only[QmZ]
theorem Qla{s:List UInt8}(h1:(kdS s:Int)=1)(h2:((parts s 32).length:Int)=8):Qb0 s=cJs s:=by rw[Qiz h1 h2,QuU]
theorem Qok{s:List UInt8}(h:s.length<=1000000000):zAc 122 [.d (.s s)] [cmdA (J7 s).1,.d (.b (J7 s).2)] []:=by
 refine zAC func122 fun w0 Z=>?_
 have hp0:=Qhh s 32
 have hp:=fun j=>Qic (s:=s) 32 j
 have hw8:WT.length=8:=rfl
 repeat'(first|(refine zhm fun hb=>?_;try exact zab)|refine zUtp ?_|refine zg2 ?_ ?_|refine kc (Qi6 (by omega)) rfl rfl ?_|refine zqj QmR ?_|intro _|fail)
 refine Qs 9 rfl ?_
 refine Qs 11 rfl ?_
 refine Qa (fun(i:Nat)=>⟨138,[(0,.d (.s s)),(2,.ptr 2 0),(4,zL (strE (parts s 32))),(5,.ptr 5 0),(11,zL (strE WT)),(12,zI 8),(13,zI (i:Int))],[(2,.box 74 (List.replicate 16 (zI 0))),(5,.box 74 (zI (kd (nth (parts s 32) 0) i:Nat)::List.replicate 15 (zI 0)))]⟩) (fun i=>i<=8) (fun i=>8-i) 0 (by omega) ?_ ?_
 ·refine⟨rfl,?_,?_,rfl⟩
  repeat'(first|exact ze3|refine ze2 ?_ ?_|refine ze4 ?_|exact ze5|fail)
  all_goals exact zp rfl
 ·intro i hi
  rcases(by omega:i<=7\/i=8)with h7|rfl
  ·repeat'(first|(refine zhm fun hb=>?_;try exact zab)|refine zUtp ?_|refine zg2 ?_ ?_|intro _|fail)
   ·refine⟨i+1,by omega,by omega,?_⟩
    refine⟨rfl,?_,?_,rfl⟩
    repeat'(first|exact ze3|refine ze2 ?_ ?_|refine ze4 ?_|exact ze5|fail)
    all_goals exact zp (by rw[QrL (by omega) (by assumption)])
   ·refine⟨i+1,by omega,by omega,?_⟩
    refine⟨rfl,?_,?_,rfl⟩
    repeat'(first|exact ze3|refine ze2 ?_ ?_|refine ze4 ?_|exact ze5|fail)
    all_goals exact zp (by rw[QsM (fun h=>by first|contradiction|exact absurd h.2 (by assumption)|omega)])
   ·refine⟨i+1,by omega,by omega,?_⟩
    refine⟨rfl,?_,?_,rfl⟩
    repeat'(first|exact ze3|refine ze2 ?_ ?_|refine ze4 ?_|exact ze5|fail)
    all_goals exact zp (by rw[QsM (fun h=>by first|contradiction|exact absurd h.2 (by assumption)|omega)])
  ·repeat'(first|(refine zhm fun hb=>?_;try exact zab)|refine zUtp ?_|refine zg2 ?_ ?_|refine kc (Qno (Xao (hp _) h)) rfl rfl ?_|refine zqj Qhz ?_|refine kc (ZJ (c:=cJs s)) rfl rfl ?_|refine kc (ZJ (c:=cL s)) rfl rfl ?_|refine kc (ZJ (c:=cN s)) rfl rfl ?_|refine kc (ZJ (c:=cZ s)) rfl rfl ?_|intro _|fail)
   all_goals
    first
     | rw[Qd0 (by assumption)]
     | rw[Y0 (Qla (by assumption) (by assumption)) (by assumption)]
     | rw[Y0 (QfK (by assumption) (by assumption)) (by assumption)]
     | rw[Y0 (Qgv (by assumption) (by assumption)) (by assumption)]
     | rw[Y0 (Qgw (s:=s) (by unfold kdS;omega) (by assumption)) (by assumption)]
     | rw[YZ (Qla (by assumption) (by assumption)) (by assumption) (by assumption)]
     | rw[YZ (QfK (by assumption) (by assumption)) (by assumption) (by assumption)]
     | rw[YZ (Qgv (by assumption) (by assumption)) (by assumption) (by assumption)]
     | rw[YZ (Qgw (s:=s) (by unfold kdS;omega) (by assumption)) (by assumption) (by assumption)]
    refine zr [] ?_ ?_
    repeat'(first|exact ze3|refine ze2 ?_ ?_|refine ze4 ?_|exact ze5|fail)
    all_goals exact zp rfl
end
end Go.Proofs.YtihgfennoalocaaGreat
