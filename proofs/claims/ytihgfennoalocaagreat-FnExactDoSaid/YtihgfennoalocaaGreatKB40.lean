/-
  The journal: JournalOpen, JournalSync, JournalAdd, JournalCrash, both; marks of journals.
-/
import Derived.Test.YtihgfennoalocaaGreatKB39
import Derived.Test.YtihgfennoalocaaGreatKB38
set_option maxRecDepth 100000
set_option maxHeartbeats 16000000
namespace Go.Proofs.YtihgfennoalocaaGreat
open Go Go.RowKit Tryz
section
attribute [local irreducible] AWp QJ OpOk ACalls ChA QsOk MCalls EnC PY
theorem Y4(b:List UInt8):(Q8 b).2<=b.length/\(Q8 b).1.length<=b.length:=by
 have key:∀(f:Nat) (x:RdSt),x.2<=b.length->x.1.length<=x.2->(rdF b f x).2<=b.length/\(rdF b f x).1.length<=(rdF b f x).2:=by
  intro f
  induction f with
  | zero=>intro x h1 h2;exact⟨h1,h2⟩
  | succ f ih=>
   intro x h1 h2
   rw[rdF]
   split
   ·rename_i hk
    have he:=Qe7 h1
    have k1:=hk.1
    have k2:=hk.2.1
    exact ih _ (by simp only[JW];omega) (by simp only[JW,Xac,XaG];omega)
   ·exact⟨h1,h2⟩
 have:=key (b.length+1) ([],0) (Xab _) (Xam _)
 exact⟨this.1,Xao this.2 this.1⟩
theorem Qou{b:List UInt8}{m n:Nat}(h:m=n):((QG b).take m).drop 0=QG (b.take n):=by
 subst h
 simp[QG,List.map_take]
theorem Qov{b:List UInt8}{m n:Nat}(h:m=n):[]++((QG b).take m).drop 0=QG (b.take n):=Qou h
abbrev jnZ:List AV:=[.agg [.nil,zI 0,zI 0]]
abbrev jnR(j:QV):AV:=.agg [.row 0,zI j.synced,zI j.count]
abbrev jnO(j:QV):List (Nat×AO):=[(0,.row 5 (QG j.bytes) true)]
theorem XJ{b:List UInt8}{es:List (List D)}(he:es=QG b)(h:b.length<=1000000000):zAc 138 [zL es] [.row 0] [(0,.row 5 (QG b) true)]:=by
 subst he
 refine zAC func138 fun w0 Z=>?_
 repeat'(first|(refine zhm fun hb=>?_;try exact zab)|refine zUto ?_|refine zg2 ?_ ?_|intro _|fail)
 refine zr [4] ?_ ?_
 repeat'(first|exact ze3|refine ze2 ?_ ?_|refine ze4 ?_|exact ze5|fail)
 all_goals exact zp rfl
def Z3(b:List UInt8):QV:=⟨b.take (Q8 b).2,(Q8 b).2,(Q8 b).1.length⟩
theorem Qgl{b:List UInt8}(h:b.length<=40000):zAc 88 [zL (QG b)] [jnR (Z3 b)] (jnO (Z3 b)):=by
 refine zAC func88 fun w0 Z=>?_
 have hr:=Y4 b
 have hl:(b.take (Q8 b).2).length<=1000000000:=by rw[Xai];omega
 repeat'(first|(refine zhm fun hb=>?_;try exact zab)|refine zUtp ?_|refine zg2 ?_ ?_|refine kc (WF (b:=b) (by omega)) rfl rfl ?_|refine kc (XJ (b:=b.take (Q8 b).2) (Qou rfl) hl) rfl rfl ?_|intro _|fail)
 refine zr [17] ?_ ?_
 repeat'(first|exact ze3|refine ze2 ?_ ?_|refine ze4 ?_|exact ze5|fail)
 all_goals exact zp rfl
theorem QfO{b:List UInt8}(h:b.length<=40000):zAc 81 [zL (QG b)] [jnR (Z3 b)] (jnO (Z3 b)):=by
 refine zAC func81 fun w0 Z=>?_
 have hr:=Y4 b
 repeat'(first|(refine zhm fun hb=>?_;try exact zab)|refine zUtp ?_|refine zg2 ?_ ?_|refine kc (Ze (b:=b) (by omega)) rfl rfl ?_|intro _|fail)
 refine zr [14] ?_ ?_
 repeat'(first|exact ze3|refine ze2 ?_ ?_|refine ze4 ?_|exact ze5|fail)
 all_goals exact zp (by first|rfl|exact Qov (b:=b) (m:=(Q8 b).2) (n:=(Q8 b).2) rfl)
def QtT(j:QV):QV:=⟨j.bytes,j.bytes.length,j.count⟩
theorem QvR{j:QV}(h:j.bytes.length<=1000000000):zAc 222 [jnA j] [jnR j] (jnO j):=by
 refine zAC func222 fun w0 Z=>?_
 repeat'(first|(refine zhm fun hb=>?_;try exact zab)|refine zUto ?_|refine zg2 ?_ ?_|refine kc (XJ rfl h) rfl rfl ?_|intro _|fail)
 refine zr [5] ?_ ?_
 repeat'(first|exact ze3|refine ze2 ?_ ?_|refine ze4 ?_|exact ze5|fail)
 all_goals exact zp rfl
theorem QvG{j:QV}(h:j.bytes.length<=1000000000)(hk:jnOk j=true):zAc 103 [jnA j] [jnR (QtT j)] (jnO (QtT j)):=by
 refine zAC func103 fun w0 Z=>?_
 have hc:=V5 h
 rw[hk]at hc
 repeat'(first|(refine zhm fun hb=>?_;try exact zab)|refine Qe ?_|(apply zch;exact zcg)|exact zhk|refine zg3 ?_ ?_|intro _|fail)
 refine zr [7] ?_ ?_
 repeat'(first|exact ze3|refine ze2 ?_ ?_|refine ze4 ?_|exact ze5|fail)
 all_goals exact zp (by first|rfl|simp)
def QbR(j:QV)(keep:Int):Nat:=(j.synced+min (max keep 0) (j.bytes.length-j.synced)).toNat
theorem Qbo{j:QV}(h:jnOk j=true):j.bytes.length<=40000/\0<=j.synced/\j.synced<=j.bytes.length/\(Q8 j.bytes).2=j.bytes.length/\((Q8 j.bytes).1.length:Int)=j.count:=by
 unfold jnOk inB at h
 simp only[Xaf,decide_eq_true_eq]at h
 omega
theorem Qel{j:QV}{keep:Int}(hk:jnOk j=true):zAc 74 [jnA j,zI keep] [.row 0] [(0,.row 5 (QG (j.bytes.take (QbR j keep))) true)]:=by
 refine zAC func74 fun w0 Z=>?_
 obtain⟨h1,h2,h3,_⟩:=Qbo hk
 have hc:=Qdf (j:=j) (by omega)
 rw[hk]at hc
 have hl:(j.bytes.take (QbR j keep)).length<=1000000000:=by rw[Xai];omega
 repeat'(first|(refine zhm fun hb=>?_;try exact zab)|refine zUtp ?_|refine zg2 ?_ ?_|(refine kc (XJ (b:=j.bytes.take (QbR j keep)) (Qou (by unfold QbR;omega)) hl) rfl rfl ?_)|intro _|fail)
 refine zr [23] ?_ ?_
 repeat'(first|exact ze3|refine ze2 ?_ ?_|refine ze4 ?_|exact ze5|fail)
 all_goals exact zp rfl
theorem Qeo{j:QV}{keep:Int}(hk:jnOk j=true):zAc 70 [jnA j,zI keep] [.row 0] [(0,.row 5 (QG (j.bytes.take (QbR j keep))) true)]:=by
 refine zAC func70 fun w0 Z=>?_
 obtain⟨h1,h2,h3,_⟩:=Qbo hk
 have hc:=V5 (j:=j) (by omega)
 rw[hk]at hc
 repeat'(first|(refine zhm fun hb=>?_;try exact zab)|refine zUtp ?_|refine zg2 ?_ ?_|intro _|fail)
 all_goals
  refine zr [24] ?_ ?_
  repeat'(first|exact ze3|refine ze2 ?_ ?_|refine ze4 ?_|exact ze5|fail)
  all_goals exact zp (by exact Qov (b:=j.bytes) (n:=QbR j keep) (by unfold QbR;omega))
def addC(j:QV)(s:List UInt8):Nat:=if jnOk j=true/\YK s=true then(if j.bytes.length+((hdT j.count.toNat++s++[10]).length)<=40000 then 0 else 2)else 1
def W2(j:QV)(s:List UInt8):QV:=⟨j.bytes++(hdT j.count.toNat++s++[10]),j.synced,j.count+1⟩
theorem Qua{j:QV}{s:List UInt8}(h:jnOk j=false):addC j s=1:=if_neg (by rw[h];exact fun h=>by cases h.1)
theorem QmS{j:QV}{s:List UInt8}(h:YK s=false):addC j s=1:=if_neg (by rw[h];exact fun h=>by cases h.2)
theorem QrK{j:QV}{s:List UInt8}(h1:jnOk j=true)(h2:YK s=true)(h3:¬j.bytes.length+((hdT j.count.toNat++s++[10]).length)<=40000):addC j s=2:=by unfold addC;rw[if_pos ⟨h1,h2⟩,if_neg h3]
theorem Qr3{j:QV}{s:List UInt8}(h1:jnOk j=true)(h2:YK s=true)(h3:j.bytes.length+((hdT j.count.toNat++s++[10]).length)<=40000):addC j s=0:=by unfold addC;rw[if_pos ⟨h1,h2⟩,if_pos h3]
theorem QfA{j:QV}{s:List UInt8}(h:addC j s=0):jnOk j=true/\YK s=true/\j.bytes.length+((hdT j.count.toNat++s++[10]).length)<=40000:=by
 unfold addC at h
 split at h
 ·rename_i h1
  split at h
  ·rename_i h2;exact⟨h1.1,h1.2,h2⟩
  ·cases h
 ·cases h
theorem QhX{s:List UInt8}(h:YK s=true):1<=s.length/\s.length<=200:=by
 unfold YK at h
 simp only[Xaf,decide_eq_true_eq]at h
 exact h.1
end
section

theorem Qff{b x:List UInt8}{i:Nat}(h:i<b.length):nth (b++x) i=nth b i:=by
 simp only[nth,List.getD_eq_getElem?_getD,List.getElem?_append_left h]
theorem Qgj{b x:List UInt8}{i j:Nat}(h:j<=b.length):subB (b++x) i j=subB b i j:=by
 unfold subB
 rw[Xa8 h]
theorem QnL{b x:List UInt8}:∀(k i:Nat),i+k=b.length->eol b i<b.length->eol (b++x) i=eol b i
 | 0,i,h,he=>by
  obtain rfl:i=b.length:=by omega
  rw[XP]at he
  omega
 | k+1,i,h,he=>by
  by_cases hn:nlAt b i
  ·rw[ZF (by omega) hn,ZF (by rw[Xac];omega) (by unfold nlAt;rw[Qff (by omega)];exact hn)]
  ·rw[Vm (by omega) hn]at he ⊢
   rw[Vm (by rw[Xac];omega) (by unfold nlAt;rw[Qff (by omega)];exact hn)]
   exact QnL k (i+1) (by omega) he
theorem QkH{b x:List UInt8}:∀(k i:Nat),i+k=b.length->eol (b++x) i<b.length->eol (b++x) i=eol b i
 | 0,i,h,he=>by
  have:=(Qe7 (b:=b++x) (i:=i) (by rw[Xac];omega)).1
  omega
 | k+1,i,h,he=>by
  by_cases hn:nlAt b i
  ·rw[ZF (by omega) hn,ZF (by rw[Xac];omega) (by unfold nlAt;rw[Qff (by omega)];exact hn)]
  ·have hm:eol (b++x) i=eol (b++x) (i+1):=Vm (by rw[Xac];omega) (by unfold nlAt;rw[Qff (by omega)];exact hn)
   rw[hm]at he ⊢
   rw[Vm (by omega) hn]
   exact QkH k (i+1) (by omega) he
theorem QjA{b x:List UInt8}{s:RdSt}(hs:s.2<=b.length)(hE:eol (b++x) s.2=eol b s.2)(hl:eol b s.2<b.length):(rdOk (b++x) s↔rdOk b s)/\(rdOk b s->JW (b++x) s=JW b s):=by
 unfold rdOk JW
 rw[hE]
 constructor
 ·constructor
  ·rintro ⟨h1,h2,h3,h4⟩
   rw[Qgj (by omega)]at h3 h4
   exact⟨hl,h2,h3,h4⟩
  ·rintro ⟨h1,h2,h3,h4⟩
   refine⟨by rw[Xac];omega,h2,?_,?_⟩
   ·rw[Qgj (by omega)];exact h3
   ·rw[Qgj (by omega)];exact h4
 ·intro h
  rw[Qgj (by omega)]
theorem QoJ{b x:List UInt8}:∀(f:Nat) (s:RdSt),s.2<=b.length->rdAt (b++x) s->rdAt (b++x) (rdF b f s)
 | 0,s,_,h=>h
 | f+1,s,hs,h=>by
  rw[rdF]
  split
  ·rename_i hk
   have hE:=QnL (b:=b) (x:=x) (b.length-s.2) s.2 (by omega) hk.1
   obtain⟨h1,h2⟩:=QjA hs hE hk.1
   have:=Xn h (h1.2 hk)
   rw[h2 hk]at this
   refine QoJ f _ ?_ this
   have:=hk.1
   simp only[JW];omega
  ·exact h
theorem QjQ{b:List UInt8}:∀(f:Nat) (s:RdSt),s.2<=b.length->s.2<=(rdF b f s).2/\∃l,(rdF b f s).1=s.1++l
 | 0,s,_=>⟨Xam _,[],(Xa2 _).symm⟩
 | f+1,s,hs=>by
  rw[rdF]
  split
  ·rename_i hk
   have he:=Qe7 hs
   have hk1:=hk.1
   obtain⟨h1,l,h2⟩:=QjQ (b:=b) f (JW b s) (by simp only[JW];omega)
   refine⟨Xao ?_ h1,[subB b (s.2+(hdT s.1.length).length) (eol b s.2)]++l,?_⟩
   ·simp only[JW];omega
   ·rw[h2];simp only[JW,Xaq]
  ·exact⟨Xam _,[],(Xa2 _).symm⟩
theorem Qri(b x:List UInt8):rdAt (b++x) (Q8 b):=QoJ (b.length+1) ([],0) (Xab _) (Qhn _)
theorem QoI{c x:List UInt8}:∀(f:Nat) (s:RdSt),s.2<=(c++x).length->(rdF (c++x) f s).2<=c.length->rdAt c s->rdAt c (rdF (c++x) f s)
 | 0,s,_,_,h=>h
 | f+1,s,hs,hn,h=>by
  rw[rdF]at hn ⊢
  split
  ·rename_i hk
   rw[if_pos hk]at hn
   have hk1:=hk.1
   have hm:=(QjQ (b:=c++x) f (JW (c++x) s) (by simp only[JW];omega)).1
   have hlt:eol (c++x) s.2<c.length:=by
    simp only[JW]at hm hn
    omega
   have hsc:=h.1
   have hE:=QkH (b:=c) (x:=x) (c.length-s.2) s.2 (by omega) hlt
   obtain⟨h1,h2⟩:=QjA hsc hE (by omega)
   have:=Xn h (h1.1 hk)
   rw[<-h2 (h1.1 hk)]at this
   exact QoI f _ (by simp only[JW];omega) hn this
  ·exact h
theorem QlB(b:List UInt8):Q8 (b.take (Q8 b).2)=Q8 b:=by
 have hl:=Y4 b
 have hc:(b.take (Q8 b).2).length=(Q8 b).2:=by rw[Xai];omega
 have hb:b.take (Q8 b).2++b.drop (Q8 b).2=b:=XaO _ _
 have h:=QoI (c:=b.take (Q8 b).2) (x:=b.drop (Q8 b).2) (b.length+1) ([],0) (Xab _) (by rw[hb,hc];exact Xam _) (Qhn _)
 rw[hb]at h
 change rdAt _ (Q8 b)at h
 refine QaP h ?_
 have:=XP (b:=b.take (Q8 b).2)
 rw[hc]at this
 rw[hc]
 exact this
theorem QkP{y:List UInt8}:∀(u b:List UInt8),(∀c∈u,(c.toNat:Int)≠10)->eol (b++(u++10::y)) b.length=b.length+u.length
 | [],b,_=>by
  refine ZF (by simp) ?_
  simp[nlAt,nth]
 | c::u,b,h=>by
  have hc:=h c Xaa
  rw[Vm (by simp) (by simp[nlAt,nth];omega)]
  have:=QkP (y:=y) u (b++[c]) (fun d hd=>h d (Xae _ hd))
  simp only[Xaq,XbE,Xac,XaG]at this
  simp only[Xbz,Xar]
  rw[this]
  omega
theorem Qui(n:Nat):∀c∈hdT n,(c.toNat:Int)≠10:=fun c hc=>by
 unfold hdT at hc
 rw[Xag,XaM]at hc
 rcases hc with hc|rfl
 ·by_cases h:(0:Int)<=n/\(n:Int)<=1000000000
  ·rw[Xq h]at hc
   have:=Qaq 9 _ (by omega) c hc
   omega
  ·rw[Qed (by omega)]at hc
   cases hc
 ·decide
theorem QuQ{s:List UInt8}(h:YK s=true):∀c∈s,(c.toNat:Int)≠10:=fun c hc=>by
 unfold YK at h
 rw[Xaf,XaD]at h
 have:=h.2 c hc
 simp only[bne_iff_ne,ne_eq]at this
 omega
theorem Qn4{b s:List UInt8}{R:List (List UInt8)}(h:Q8 b=(R,b.length))(hs:YK s=true):Q8 (b++(hdT R.length++s++[10]))=(R++[s],(b++(hdT R.length++s++[10])).length):=by
 have ha:=Qri b (hdT R.length++s++[10])
 rw[h]at ha
 have he:eol (b++(hdT R.length++s++[10])) b.length=b.length+(hdT R.length++s).length:=QkP (y:=[]) (hdT R.length++s) b (fun c hc=>by
  rcases Xag.1 hc with hc|hc
  ·exact Qui _ c hc
  ·exact QuQ hs c hc)
 have e1:subB (b++(hdT R.length++s++[10])) b.length (b.length+(hdT R.length).length)=hdT R.length:=by
  unfold subB
  rw[XbW,Xb6,Xaq,Xb5]
 have e2:subB (b++(hdT R.length++s++[10])) (b.length+(hdT R.length).length) (b.length+(hdT R.length++s).length)=s:=by
  unfold subB
  rw[XbW,<-Xb3,Xb6,Xb5,Xb6]
 have hk:rdOk (b++(hdT R.length++s++[10])) (R,b.length):=by
  refine⟨?_,?_,e1,?_⟩
  ·show eol _ b.length<_
   rw[he];simp
  ·show _<=eol _ b.length-b.length
   rw[he];simp
  ·show YK (subB _ _ (eol _ b.length))=true
   rw[he,e2];exact hs
 have hn:=Xn ha hk
 have en:JW (b++(hdT R.length++s++[10])) (R,b.length)=(R++[s],(b++(hdT R.length++s++[10])).length):=by
  unfold JW
  show(R++[subB _ _ (eol _ b.length)],eol _ b.length+1)=_
  rw[he,e2]
  simp
  omega
 rw[en]at hn
 exact QaP hn XP
theorem Qfp{j:QV}:jnOk j=true↔j.bytes.length<=40000/\(0<=j.synced/\j.synced<=j.bytes.length)/\(Q8 j.bytes).2=j.bytes.length/\((Q8 j.bytes).1.length:Int)=j.count:=by
 unfold jnOk inB
 simp only[Xaf,decide_eq_true_eq]
 omega
theorem QeH{j:QV}{s:List UInt8}(h:addC j s=0):Q8 (W2 j s).bytes=((Q8 j.bytes).1++[s],(W2 j s).bytes.length)/\jnOk (W2 j s)=true:=by
 obtain⟨h1,h2,h3⟩:=QfA h
 obtain⟨a,b,c,d⟩:=Qfp.1 h1
 have e:j.count.toNat=(Q8 j.bytes).1.length:=by omega
 have hr:Q8 (W2 j s).bytes=((Q8 j.bytes).1++[s],(W2 j s).bytes.length):=by
  unfold W2
  rw[e]
  exact Qn4 (by rw[<-c]) h2
 refine⟨hr,Qfp.2 ⟨?_,?_,?_,?_⟩⟩
 ·simp only[W2,Xac]at h3 ⊢;omega
 ·simp only[W2,Xac];omega
 ·rw[hr]
 ·rw[hr];simp only[W2,Xac,XaG];omega
end
section
attribute [local irreducible] AWp QJ OpOk ACalls ChA QsOk MCalls EnC PY
structure QvV where
 kind:Int
 cmd:Cmd
 keep:Int
@[reducible] def QvD (x:QvV):AV:=.agg [zI x.kind,zI x.cmd.kind,zI x.cmd.job.id,zI x.cmd.job.prio,zI x.cmd.job.nodes,zI x.cmd.job.need.a,zI x.cmd.job.need.b,zI x.cmd.job.need.c,zI x.cmd.job.lic.a,zI x.cmd.job.lic.b,zI x.cmd.job.lic.c,zI x.cmd.job.wall,zI x.cmd.job.level,zI x.cmd.n,zI x.cmd.lic.a,zI x.cmd.lic.b,zI x.cmd.lic.c,zI x.keep]
def Qt3(c:Cmd):Bool:=c.kind==0&&XY c.job&&c.n==0&&ZQ c.lic
def Qvd(x:QvV):List UInt8:=
 if x.kind=1 then(if ¬Q3 x.cmd=[]/\x.keep=0 then[100,111,32]++Q3 x.cmd else[])
 else if x.kind=2 then(if ¬Q3 x.cmd=[]/\inB x.keep 0 1000000000=true then[116,111,114,110,32]++Jn x.keep++[32]++Q3 x.cmd else[])
 else if x.kind=3 then(if Qt3 x.cmd=true/\x.keep=0 then[99,114,97,115,104] else[])
 else if x.kind=4 then(if Qt3 x.cmd=true/\x.keep=0 then[115,116,97,114,116] else[])
 else[]
theorem QcY(c:Cmd):(Q3 c).length<=1000:=by
 have h1:=QjG c.job
 have h2:=J6 c.lic
 have h3:=Qv c.n
 have h4:=QfT c.kind
 unfold Q3
 repeat' split
 ·simp[WL,cmdW,nth,WT];omega
 ·simp[WL,cmdW,nth,WT];omega
 ·simp[WL];omega
 ·simp
abbrev QrS(c:Nat):List AV:=[.agg [.nil,zI 0,zI 0],zI c]
theorem QpL{j:QV}{s:List UInt8}(hj:jnOk j=true)(hs:s.length<=1000000000)(hc:addC j s≠0):zAc 136 [jnA j,.d (.s s)] (QrS (addC j s)) []:=by
 refine zAC func136 fun w0 Z=>?_
 obtain⟨h1,h2,h3,h4,h5⟩:=Qbo hj
 have hcn:(j.count.toNat:Int)=j.count:=by have:=Y4 j.bytes;omega
 have hnl:=Qv j.count.toNat
 rw[hcn]at hnl
 have hlb:(hdT j.count.toNat++s++[10]).length<=1000000012:=by
  have:=Qv j.count.toNat
  simp only[hdT,Xac,XaG];omega
 have hll:(Jn j.count++({ data:=#[32] }:ByteArray).data.toList++s++({ data:=#[10] }:ByteArray).data.toList).length=(hdT j.count.toNat++s++[10]).length:=by rw[hdT,hcn]
 repeat'(first|(refine zhm fun hb=>?_;try exact zab)|refine zUtp ?_|refine zg2 ?_ ?_|refine zqj W9 ?_|refine kc (QaZ hs) rfl rfl ?_|intro _|fail)
 ·rw[QmS hb]
  refine zr [] ?_ ?_
  repeat'(first|exact ze3|refine ze2 ?_ ?_|refine ze4 ?_|exact ze5|fail)
  all_goals exact zp rfl
 ·rw[QrK hj (by assumption) (by omega)]
  refine zr [] ?_ ?_
  repeat'(first|exact ze3|refine ze2 ?_ ?_|refine ze4 ?_|exact ze5|fail)
  all_goals exact zp rfl
 ·exact absurd (Qr3 hj (by assumption) (by omega)) hc
theorem Qsf{j:QV}{s:List UInt8}(hc:addC j s=0):zAc 136 [jnA j,.d (.s s)] [jnR (W2 j s),zI 0] (jnO (W2 j s)):=by
 refine zAC func136 fun w0 Z=>?_
 obtain⟨hj,hs,hl⟩:=QfA hc
 have hsl:=QhX hs
 obtain⟨h1,h2,h3,h4,h5⟩:=Qbo hj
 have hcn:(j.count.toNat:Int)=j.count:=by have:=Y4 j.bytes;omega
 have hnl:=Qv j.count.toNat
 rw[hcn]at hnl
 have hlb:(hdT j.count.toNat++s++[10]).length<=1000000012:=by
  have:=Qv j.count.toNat
  simp only[hdT,Xac,XaG];omega
 have hll:(Jn j.count++({ data:=#[32] }:ByteArray).data.toList++s++({ data:=#[10] }:ByteArray).data.toList).length=(hdT j.count.toNat++s++[10]).length:=by rw[hdT,hcn]
 have hr:=Y4 j.bytes
 have hok:=QaZ (s:=s) (by omega)
 rw[hs]at hok
 repeat'(first|(refine zhm fun hb=>?_;try exact zab)|refine zUtp ?_|refine zg2 ?_ ?_|refine zqj W9 ?_|refine kc (XJ rfl (by omega)) rfl rfl ?_|intro _|fail)
 refine zr [30] ?_ ?_
 repeat'(first|exact ze3|refine ze2 ?_ ?_|refine ze4 ?_|exact ze5|fail)
 all_goals exact zp (by first|rfl|(rw[QbW];simp only[W2,hdT,hcn];done)|(simp only[W2];omega))
theorem QgX{j:QV}{s:List UInt8}(hc:addC j s=0):zAc 134 [jnA j,.d (.s s)] [jnR (W2 j s),zI 0] (jnO (W2 j s)):=by
 refine zAC func134 fun w0 Z=>?_
 obtain⟨hj,hs,hl⟩:=QfA hc
 have hsl:=QhX hs
 obtain⟨h1,h2,h3,h4,h5⟩:=Qbo hj
 have hcn:(j.count.toNat:Int)=j.count:=by have:=Y4 j.bytes;omega
 have hnl:=Qv j.count.toNat
 rw[hcn]at hnl
 have hr:=Y4 j.bytes
 have hok:=VU (s:=s) (by omega)
 rw[hs]at hok
 have hjk:=V5 (j:=j) (by omega)
 rw[hj]at hjk
 have hlen:([]++QG j.bytes++QG (hdT j.count.toNat++s++[10])).length=j.bytes.length+(hdT j.count.toNat++s++[10]).length:=by rw[Xa5,Xac,Qj,Qj]
 have hrec:=Zh (n:=j.count.toNat) (s:=s) (by omega)
 rw[hcn]at hrec
 repeat'(first|(refine zhm fun hb=>?_;try exact zab)|refine Qe ?_|(apply zch;exact zcg)|exact zhk|refine zg3 ?_ ?_|intro _|fail)
 refine zr [16] ?_ ?_
 repeat'(first|exact ze3|refine ze2 ?_ ?_|refine ze4 ?_|exact ze5|fail)
 all_goals exact zp (by first|rfl|(rw[Xa5,QbW];simp only[W2];done)|(simp only[W2];omega))
theorem Qfg{j:QV}{s:List UInt8}(h:j.bytes.length<=1000000000)(hs:s.length<=1000000000)(hc:addC j s≠0):zAc 134 [jnA j,.d (.s s)] (QrS (addC j s)) []:=by
 refine zAC func134 fun w0 Z=>?_
 have hjk:=V5 (j:=j) h
 cases hj:jnOk j with
 | false=>
  rw[hj]at hjk
  rw[Qua hj]
  repeat'(first|(refine zhm fun hb=>?_;try exact zab)|refine Qe ?_|(apply zch;exact zcg)|exact zhk|refine zg3 ?_ ?_|intro _|fail)
  refine zr [] ?_ ?_
  repeat'(first|exact ze3|refine ze2 ?_ ?_|refine ze4 ?_|exact ze5|fail)
  all_goals exact zp rfl
 | true=>
  rw[hj]at hjk
  obtain⟨h1,h2,h3,h4,h5⟩:=Qbo hj
  have hcn:(j.count.toNat:Int)=j.count:=by have:=Y4 j.bytes;omega
  have hlb:(hdT j.count.toNat++s++[10]).length<=1000000012:=by
   have:=Qv j.count.toNat
   simp only[hdT,Xac,XaG];omega
  have hlen:([]++QG j.bytes++QG (hdT j.count.toNat++s++[10])).length=j.bytes.length+(hdT j.count.toNat++s++[10]).length:=by rw[Xa5,Xac,Qj,Qj]
  have hrec:=Zh (n:=j.count.toNat) (s:=s) hs
  rw[hcn]at hrec
  repeat'(first|(refine zhm fun hb=>?_;try exact zab)|refine Qe ?_|(apply zch;exact zcg)|exact zhk|refine zg3 ?_ ?_|refine kc (VU hs) rfl rfl ?_|refine kq (VU hs) rfl rfl ?_|intro _|fail)
  ·rw[QmS (by assumption)]
   refine zr [] ?_ ?_
   repeat'(first|exact ze3|refine ze2 ?_ ?_|refine ze4 ?_|exact ze5|fail)
   all_goals exact zp rfl
  ·rw[QrK hj (by assumption) (by omega)]
   refine zr [] ?_ ?_
   repeat'(first|exact ze3|refine ze2 ?_ ?_|refine ze4 ?_|exact ze5|fail)
   all_goals exact zp rfl
  ·exact absurd (Qr3 hj (by assumption) (by omega)) hc
end
end Go.Proofs.YtihgfennoalocaaGreat
