/-
  Commands: CmdOk, both.
-/
import Derived.Test.YtkdniahincpmaaaGreatQGlA
set_option maxRecDepth 100000
set_option maxHeartbeats 16000000
namespace Go.Proofs.YtkdniahincpmaaaGreat
open Go Go.RowKit Tryz
section
attribute [local irreducible] AWp QM OpOk ACalls ChA QsOk MCalls EnC PY

structure Cmd where
 kind:Int
 job:Job
 n:Int
 lic:V3
@[reducible] def cmdA (c:Cmd):AV:=.agg [zI c.kind,zI c.job.id,zI c.job.prio,zI c.job.nodes,zI c.job.need.a,zI c.job.need.b,zI c.job.need.c,zI c.job.lic.a,zI c.job.lic.b,zI c.job.lic.c,zI c.job.wall,zI c.job.level,zI c.n,zI c.lic.a,zI c.lic.b,zI c.lic.c]
def V9(v:V3):Bool:=v.a==0&&v.b==0&&v.c==0
def ZR(j:Job):Bool:=j.id==0&&j.prio==0&&j.nodes==0&&V9 j.need&&V9 j.lic&&j.wall==0&&j.level==0
def Jv(c:Cmd):Bool:=
 if c.kind=1 then Qm c.job&&c.n==0&&V9 c.lic
 else if c.kind=2\/c.kind=3 then ZR c.job&&V9 c.lic&&inB c.n 1 999
 else if c.kind=4\/c.kind=5 then ZR c.job&&V9 c.lic&&inB c.n 0 23
 else if c.kind=6 then ZR c.job&&c.n==0&&Qh c.lic
 else if c.kind=7 then ZR c.job&&V9 c.lic&&inB c.n 0 1000000000
 else false
theorem Qkj{c:Cmd}:zAc 178 [cmdA c] [.d (.b (Jv c))] []:=by
 refine zAC func178 fun w0 Z=>?_
 repeat'(first|(refine zhm fun hb=>?_;try exact zab)|refine zUto ?_|refine zg2 ?_ ?_|refine zqj Q5 ?_|refine zqj W7 ?_|refine kc (Yu (v:=c.lic)) rfl rfl ?_|refine kc (Xf (j:=c.job)) rfl rfl ?_|intro _)
 all_goals
  refine zr [] ?_ ?_
  repeat'(first|exact ze3|refine ze2 ?_ ?_|refine ze4 ?_|exact ze5|fail)
  refine zp ?_
  first
   | done
   | (rw[Bool.eq_iff_iff];simp[Jv,Qm,Qh,ZR,V9,inB]at *;omega)
   | (rw[Bool.eq_iff_iff];simp[Jv,Qm,Qh,ZR,V9,inB]at *;done)
   | (rw[Bool.eq_iff_iff];simp[Jv,Qm,Qh,ZR,V9,inB]at *;simp[*];done)
   | (rw[Bool.eq_iff_iff];simp[Jv,Qm,Qh,ZR,V9,inB]at *;simp[*];omega)
   | (rw[Bool.eq_iff_iff];simp[Jv,Qm,Qh,ZR,V9,inB]at *;simp[*];intros;omega)
theorem Qep{c:Cmd}:zAc 97 [cmdA c] [.d (.b (Jv c))] []:=by
 refine zAC func97 fun w0 Z=>?_
 repeat'(first|(refine zhm fun hb=>?_;try exact zab)|refine zUto ?_|refine zg2 ?_ ?_|refine zqj Wh ?_|refine kc (J9 (v:=c.lic)) rfl rfl ?_|refine kc (Qe6 (j:=c.job)) rfl rfl ?_|intro _)
 all_goals
  refine zr [] ?_ ?_
  repeat'(first|exact ze3|refine ze2 ?_ ?_|refine ze4 ?_|exact ze5|fail)
  refine zp ?_
  first
   | done
   | (rw[Bool.eq_iff_iff];simp[Jv,Qm,Qh,ZR,V9,inB]at *;omega)
   | (rw[Bool.eq_iff_iff];simp[Jv,Qm,Qh,ZR,V9,inB]at *;done)
   | (rw[Bool.eq_iff_iff];simp[Jv,Qm,Qh,ZR,V9,inB]at *;simp[*];done)
   | (rw[Bool.eq_iff_iff];simp[Jv,Qm,Qh,ZR,V9,inB]at *;simp[*];omega)
   | (rw[Bool.eq_iff_iff];simp[Jv,Qm,Qh,ZR,V9,inB]at *;simp[*];intros;omega)

def numT(n:Nat):List UInt8:=if n<10 then[UInt8.ofNat (48+n)]else numT (n / 10)++[UInt8.ofNat (48+n % 10)]
theorem Vy{n:Nat}(h:n<10):numT n=[UInt8.ofNat (48+n)]:=by rw[numT,if_pos h]
theorem XD{n:Nat}(h:¬n<10):numT n=numT (n / 10)++[UInt8.ofNat (48+n % 10)]:=by rw[numT,if_neg h]
theorem QaU:∀(k n:Nat),n<10 ^ (k+1)->(numT n).length<=k+1
 | 0,n,h=>by rw[Vy (by omega)];simp
 | k+1,n,h=>by
  by_cases h1:n<10
  ·rw[Vy h1];simp
  ·rw[XD h1,Xab,XaF]
   have:=QaU k (n / 10) (by rw[Nat.pow_succ]at h;omega)
   omega
theorem QgH{n:Nat}(h:n<10):(UInt8.ofNat (48+n)).toNat=48+n:=by
 rw[UInt8.toNat_ofNat'];omega
theorem Qs9:∀(n:Nat),∀b∈numT n,48<=b.toNat/\b.toNat<=57:=by
 intro n
 induction n using Nat.strongRecOn with
 | _ n ih=>
  intro b hb
  by_cases h:n<10
  ·rw[Vy h,XaH]at hb
   subst hb
   rw[QgH h];omega
  ·rw[XD h,Xag,XaH]at hb
   rcases hb with hb|rfl
   ·exact ih (n / 10) (by omega) b hb
   ·rw[QgH (by omega)];omega
def numV(l:List UInt8):Nat:=l.foldl (fun v b=>10*v+(b.toNat-48)) 0
theorem Quo:∀(n:Nat),numV (numT n)=n:=by
 intro n
 induction n using Nat.strongRecOn with
 | _ n ih=>
  by_cases h:n<10
  ·rw[Vy h]
   simp only[numV,Xa4,List.foldl_nil,QgH h]
   omega
  ·rw[XD h,numV,XaN]
   have:=ih (n / 10) (by omega)
   unfold numV at this
   rw[this]
   simp only[Xa4,List.foldl_nil,QgH (show n % 10<10 by omega)]
   omega
theorem Qt2{n m:Nat}(h:numT n=numT m):n=m:=by rw[<-Quo n,h,Quo]
theorem cutU{q:UInt8}:∀{x y x' y':List UInt8},(∀b∈x,b≠q)->(∀b∈x',b≠q)->x++q::y=x'++q::y'->x=x'/\y=y'
 | [],y,[],y',_,_,h=>⟨rfl,by simpa using h⟩
 | [],y,b::x',y',_,h2,h=>by
  injection h with h _
  exact absurd h.symm (h2 b Xaa)
 | b::x,y,[],y',h1,_,h=>by
  injection h with h _
  exact absurd h (h1 b Xaa)
 | b::x,y,b'::x',y',h1,h2,h=>by
  injection h with e h
  obtain⟨g1,g2⟩:=cutU (fun c hc=>h1 c (Xad _ hc)) (fun c hc=>h2 c (Xad _ hc)) h
  exact⟨by rw[e,g1],g2⟩
theorem Qru{n:Nat}{q:UInt8}(hq:q.toNat<48):∀b∈numT n,b≠q:=fun b hb e=>by
 have:=(Qs9 n b hb).1
 rw[e]at this;omega
theorem QeF{q:UInt8}(hq:q.toNat<48){n m:Nat}{y y':List UInt8}(h:numT n++q::y=numT m++q::y'):n=m/\y=y':=by
 obtain⟨d,e⟩:=cutU (Qru hq) (Qru hq) h
 exact⟨Qt2 d,e⟩
def txS:List UInt8:=[115,119,105,116,99,104,32]
def txN:List UInt8:=[110,111,100,101,32]
def swT(p:Int):List UInt8:=txS++(numT p.toNat++[10])
def vcT(v:V3):List UInt8:=numT v.a.toNat++47::(numT v.b.toNat++47::numT v.c.toNat)
def ndT(n:Qar):List UInt8:=txN++(numT n.leaf.toNat++32::(vcT n.cap++[10]))
theorem Xb{x y:Int}(hx:0<=x)(hy:0<=y)(h:x.toNat=y.toNat):x=y:=by omega
def nonN(n:Qar):Prop:=0<=n.leaf/\0<=n.cap.a/\0<=n.cap.b/\0<=n.cap.c
theorem QvE{n m:Qar}{y y':List UInt8}(hn:nonN n)(hm:nonN m)(h:ndT n++y=ndT m++y'):n=m/\y=y':=by
 obtain⟨i,j,k,o⟩:=hn
 obtain⟨p,q,r,s⟩:=hm
 simp only[ndT,vcT,Xao,Xbp,Xba]at h
 have h:=List.append_cancel_left h
 obtain⟨d,h⟩:=QeF (by decide) h
 obtain⟨e,h⟩:=QeF (by decide) h
 obtain⟨f,h⟩:=QeF (by decide) h
 obtain⟨g,h⟩:=QeF (by decide) h
 refine⟨?_,h⟩
 obtain⟨l,⟨a,b,c⟩⟩:=n
 obtain⟨l',⟨a',b',c'⟩⟩:=m
 simp only at *
 rw[Xb i p d,Xb j q e,Xb k r f,Xb o s g]
theorem QqO:∀{l l':List Qar},(∀n∈l,nonN n)->(∀n∈l',nonN n)->l.flatMap ndT=l'.flatMap ndT->l=l'
 | [],[],_,_,_=>rfl
 | [],m::l',_,_,h=>by simp[ndT,txN]at h
 | n::l,[],_,_,h=>by simp[ndT,txN]at h
 | n::l,m::l',h1,h2,h=>by
  rw[Xbq,Xbq]at h
  obtain⟨e1,e2⟩:=QvE (h1 n Xaa) (h2 m Xaa) h
  rw[e1,QqO (fun x hx=>h1 x (Xad _ hx)) (fun x hx=>h2 x (Xad _ hx)) e2]
theorem Qmj:∀{p p':List Int} {l l':List Qar},(∀x∈p,0<=x)->(∀x∈p',0<=x)->(∀n∈l,nonN n)->(∀n∈l',nonN n)->p.flatMap swT++l.flatMap ndT=p'.flatMap swT++l'.flatMap ndT->p=p'/\l=l'
 | [],[],l,l',_,_,h3,h4,h=>⟨rfl,QqO h3 h4 (by simpa using h)⟩
 | [],x::p',l,l',_,_,_,_,h=>by
  cases l with
  | nil=>simp[swT,txS]at h
  | cons n l=>simp[swT,txS,ndT,txN]at h
 | x::p,[],l,l',_,_,_,_,h=>by
  cases l' with
  | nil=>simp[swT,txS]at h
  | cons n l=>simp[swT,txS,ndT,txN]at h
 | x::p,x'::p',l,l',h1,h2,h3,h4,h=>by
  simp only[Xbq,swT,Xao,Xbp,Xba]at h
  have h:=List.append_cancel_left h
  obtain⟨e1,h⟩:=QeF (by decide) h
  obtain⟨g1,g2⟩:=Qmj (fun y hy=>h1 y (Xad _ hy)) (fun y hy=>h2 y (Xad _ hy)) h3 h4 h
  exact⟨by rw[Xb (h1 x Xaa) (h2 x' Xaa) e1,g1],g2⟩
def Qvm(t:QX):List UInt8:=(t.parents.drop 1).flatMap swT++t.nodes.flatMap ndT
theorem Qra{t t':QX}(h:Q3 t)(h':Q3 t')(e:Qvm t=Qvm t'):t=t':=by
 have d:∀{t:QX},Q3 t->(∀x∈t.parents.drop 1,0<=x)/\(∀n∈t.nodes,nonN n)/\t.parents=0::t.parents.drop 1:=fun {t} h=>by
  refine⟨fun x hx=>?_,fun n hn=>?_,?_⟩
  ·obtain⟨i,f,rfl⟩:=Xbh hx
   rw[XaP]at f
   have c:=(h.valid (i+1) (by omega) (by omega)).1
   rw[List.getElem_drop]
   have e:nth t.parents (i+1)=t.parents[1+i]'(by omega):=by
    rw[nth,List.getD_eq_getElem?_getD,List.getElem?_eq_getElem (by omega)]
    simp only[XaJ,Nat.add_comm]
   rwa [e]at c
  ·obtain⟨i,f,rfl⟩:=Xbh hn
   obtain⟨⟨c,_⟩,_,b⟩:=h.nodes i f
   have e:nth t.nodes i=t.nodes[i]:=by rw[nth,List.getD_eq_getElem?_getD,List.getElem?_eq_getElem f];rfl
   rw[e]at c b
   simp only[Qh,Xac,J4]at b
   exact⟨c,b.1.1.1,b.1.2.1,b.2.1⟩
  ·have c:=h.len.1
   have b:=h.zero
   cases g:t.parents with
   | nil=>rw[g]at c;simp at c
   | cons a l=>
    rw[g]at b
    have:a=0:=by simpa [nth] using b
    rw[this];rfl
 obtain⟨r,s,u⟩:=d h
 obtain⟨m,o,q⟩:=d h'
 obtain⟨j,k⟩:=Qmj r m s o e
 obtain⟨p,n⟩:=t
 obtain⟨p',n'⟩:=t'
 simp only at *
 rw[u,q,j,k]
def QyJ(x:Int):List UInt8:=numT x.toNat
theorem Yp{n:Nat}(h:n<=1000000000):(numT n).length<=10:=QaU 9 _ (by omega)
theorem Qjj:∀(n:Nat),n<=1000000000->zAc 96 [zI (n:Int)] [.d (.s (numT n))] []:=by
 intro n
 induction n using Nat.strongRecOn with
 | _ n ih=>
  intro hn
  refine zAC func96 fun w0 Z=>?_
  have hl:=QaU 9 (n / 10) (by omega)
  repeat'(first|(refine zhm fun hb=>?_;try exact zab)|refine QcZ ?_|(apply zch;exact zcg)|exact zhk|refine zg3 ?_ ?_|refine zqd Wh ?_|refine kc (ih (n / 10) (by omega) (by omega)) rfl rfl ?_|intro _)
  ·refine zr [] ?_ ?_
   repeat'(first|exact ze3|refine ze2 ?_ ?_|refine ze4 ?_|exact ze5|fail)
   refine zp ?_
   rw[Vy (by omega)]
   rfl
  ·refine zr [] ?_ ?_
   repeat'(first|exact ze3|refine ze2 ?_ ?_|refine ze4 ?_|exact ze5|fail)
   refine zp ?_
   rw[XD (n:=n) (by omega)]
   rfl
theorem Y7{x:Int}(h:0<=x/\x<=1000000000):zAc 96 [zI x] [.d (.s (numT x.toNat))] []:=by
 have:=Qjj x.toNat (by omega)
 rwa [Xbi h.1]at this
theorem QuG{v:V3}(h:Qh v=true):(0<=v.a/\v.a<=1000000)/\(0<=v.b/\v.b<=1000000)/\(0<=v.c/\v.c<=1000000):=by
 simp only[Qh,Xac,J4]at h
 exact⟨h.1.1,h.1.2,h.2⟩
theorem QoP{v:V3}(h:Qh v=true):(vcT v).length<=32:=by
 obtain⟨h1,h2,h3⟩:=QuG h
 have k1:=Yp (n:=v.a.toNat) (by omega)
 have k2:=Yp (n:=v.b.toNat) (by omega)
 have k3:=Yp (n:=v.c.toNat) (by omega)
 simp only[vcT,Xab,Xap]
 omega
theorem QjJ{v:V3}(h:Qh v=true):zAc 99 [vecA v] [.d (.s (vcT v))] []:=by
 refine zAC func99 fun w0 Z=>?_
 obtain⟨h1,h2,h3⟩:=QuG h
 have k1:=Yp (n:=v.a.toNat) (by omega)
 have k2:=Yp (n:=v.b.toNat) (by omega)
 have k3:=Yp (n:=v.c.toNat) (by omega)
 have e:=J9 (v:=v)
 rw[h]at e
 repeat'(first|(refine zhm fun hb=>?_;try exact zab)|refine QcZ ?_|(apply zch;exact zcg)|exact zhk|refine zg3 ?_ ?_|refine kc (Y7 (x:=v.a) (by omega)) rfl rfl ?_|refine kc (Y7 (x:=v.b) (by omega)) rfl rfl ?_|refine kc (Y7 (x:=v.c) (by omega)) rfl rfl ?_|refine kq (Y7 (x:=v.a) (by omega)) rfl rfl ?_|refine kq (Y7 (x:=v.b) (by omega)) rfl rfl ?_|refine kq (Y7 (x:=v.c) (by omega)) rfl rfl ?_|intro _)
 refine zr [] ?_ ?_
 repeat'(first|exact ze3|refine ze2 ?_ ?_|refine ze4 ?_|exact ze5|fail)
 refine zp ?_
 simp[vcT]
theorem Qt5{l:List Int}{i:Nat}(h:i<l.length):(l.take (i+1)).flatMap swT=(l.take i).flatMap swT++txS++numT (nth l i).toNat++[10]:=by
 have e:nth l i=l[i]:=by simp[nth,h]
 rw[XaA h,XbW,e]
 simp[swT]
theorem Qtw{l:List Qar}{i:Nat}(h:i<l.length):(l.take (i+1)).flatMap ndT=(l.take i).flatMap ndT++txN++numT (nth l i).leaf.toNat++[32]++vcT (nth l i).cap++[10]:=by
 have e:nth l i=l[i]:=by simp[nth,h]
 rw[XaA h,XbW,e]
 simp[ndT]
theorem Qjr{l:List Int}{i:Nat}:nth (l.drop 1) i=nth l (i+1):=by
 simp only[nth,List.getD_eq_getElem?_getD,List.getElem?_drop,Nat.add_comm]
theorem Qph:∀{l:List Int},(∀x∈l,0<=x/\x<=1000000000)->(l.flatMap swT).length<=18*l.length
 | [],_=>by simp
 | x::l,h=>by
  have ih:=Qph (l:=l) fun y hy=>h y (Xad _ hy)
  have hx:=h x Xaa
  have:=Yp (n:=x.toNat) (by omega)
  rw[Xbq,Xab,Xap,swT,Xab,Xab]
  simp only[txS,Xap,XaS]
  omega
theorem Qul:∀{l:List Qar},(∀n∈l,(0<=n.leaf/\n.leaf<=1000000000)/\Qh n.cap=true)->(l.flatMap ndT).length<=50*l.length
 | [],_=>by simp
 | x::l,h=>by
  have ih:=Qul (l:=l) fun y hy=>h y (Xad _ hy)
  have hx:=h x Xaa
  have:=Yp (n:=x.leaf.toNat) (by omega)
  have:=QoP hx.2
  rw[Xbq,Xab,Xap,ndT,Xab,Xab,Xap,Xab]
  simp only[txN,Xap,XaS]
  omega
theorem Qk1{α:Type}[Inhabited α]{l:List α}{x:α}(h:x∈l):∃i,i<l.length/\nth l i=x:=by
 obtain⟨i,a,e⟩:=Xbh h
 exact⟨i,a,by rw[nth,List.getD_eq_getElem?_getD,List.getElem?_eq_getElem a];exact e⟩
theorem QfG{t:QX}(h:Q3 t):zAc 277 [YW t] [.d (.s (Qvm t))] []:=by
 refine zAC func277 fun w0 Z=>?_
 have p:=h.len
 have ah:=h.nlen
 have ac:=Qc t.parents
 have ad:=Qw t.nodes
 have z:=ZW (t:=t) (by omega) (by omega)
 rw[show JB t=true from by unfold JB;simp[h]]at z
 have y:∀x∈t.parents.drop 1,0<=x/\x<=1000000000:=fun x hx=>by
  obtain⟨i,m,e⟩:=Qk1 hx
  rw[XaP]at m
  rw[Qjr]at e
  have:=h.valid (i+1) (by omega) (by omega)
  rw[e]at this
  omega
 have c:∀n∈t.nodes,(0<=n.leaf/\n.leaf<=1000000000)/\Qh n.cap=true:=fun n c=>by
  obtain⟨i,m,e⟩:=Qk1 c
  obtain⟨h1,_,r⟩:=h.nodes i m
  rw[e]at h1 r
  exact⟨by omega,r⟩
 have g:=Qph y
 rw[XaP]at g
 repeat'(first|(refine zhm fun hb=>?_;try exact zab)|refine Qd ?_|(apply zch;exact zcg)|exact zhk|refine zg3 ?_ ?_|intro _)
 refine Qa (fun(k:Nat)=>⟨48,[(1,.ptr 1 0),(3,.d (.s (((t.parents.drop 1).take k).flatMap swT))),(4,zI ((k+1:Nat):Int))],[(1,.box 26 [zL (intE t.parents),zL (Qr t.nodes)])]⟩) (fun k=>k+1<=t.parents.length) (fun k=>t.parents.length-k) 0 (by exact p.1) ?_ ?_
 ·exact zll
 ·intro k hk
  have af:=Qph (l:=(t.parents.drop 1).take k) fun x hx=>y x (XaE hx)
  have w:((t.parents.drop 1).take k).length=k:=by rw[Xah,XaP];omega
  by_cases o:k+1<t.parents.length
  ·have hv:=h.valid (k+1) (by omega) o
   have q:=Yp (n:=(nth t.parents (k+1)).toNat) (by omega)
   repeat'(first|(refine zhm fun hb=>?_;try exact zab)|refine Qd ?_|(apply zch;exact zcg)|exact zhk|refine zg3 ?_ ?_|refine kc (Y7 (x:=nth t.parents (k+1)) (by omega)) rfl rfl ?_|refine kq (Y7 (x:=nth t.parents (k+1)) (by omega)) rfl rfl ?_|intro _)
   refine⟨k+1,by omega,by omega,?_⟩
   refine⟨rfl,?_,?_,rfl⟩
   repeat'(first|exact ze3|refine ze2 ?_ ?_|refine ze4 ?_|exact ze5|fail)
   all_goals exact zp (by first|rfl|(rw[Qt5 (by rw[XaP];omega),Qjr];rfl))
  ·have ab:k=t.parents.length-1:=by omega
   have b:((t.parents.drop 1).take k).flatMap swT=(t.parents.drop 1).flatMap swT:=by rw[Xay (by rw[XaP];omega)]
   rw[b]
   repeat'(first|(refine zhm fun hb=>?_;try exact zab)|refine Qd ?_|(apply zch;exact zcg)|exact zhk|refine zg3 ?_ ?_|intro _)
   refine Qa (fun(j:Nat)=>⟨48,[(3,.d (.s ((t.parents.drop 1).flatMap swT++(t.nodes.take j).flatMap ndT))),(28,zL (Qr t.nodes)),(29,zI (t.nodes.length:Nat)),(30,zI j)],[]⟩) (fun j=>j<=t.nodes.length) (fun j=>t.nodes.length-j) 0 (by exact Xae _) ?_ ?_
   ·refine⟨rfl,?_,?_,rfl⟩
    repeat'(first|exact ze3|refine ze2 ?_ ?_|refine ze4 ?_|exact ze5|fail)
    all_goals exact zp (by first|rfl|simp)
   ·intro j hj
    have ae:=Qul (l:=t.nodes.take j) fun x hx=>c x (XaE hx)
    have u:(t.nodes.take j).length=j:=by rw[Xah];omega
    have ag:((t.parents.drop 1).flatMap swT++(t.nodes.take j).flatMap ndT).length<=5000:=by rw[Xab];omega
    by_cases a:j<t.nodes.length
    ·obtain⟨g1,f⟩:=c _ (QE a)
     have q:=Yp (n:=(nth t.nodes j).leaf.toNat) (by omega)
     have ai:=QoP f
     repeat'(first|(refine zhm fun hb=>?_;try exact zab)|refine Qd ?_|(apply zch;exact zcg)|exact zhk|refine zg3 ?_ ?_|refine kc (Y7 (x:=(nth t.nodes j).leaf) (by omega)) rfl rfl ?_|refine kc (QjJ (v:=(nth t.nodes j).cap) f) rfl rfl ?_|refine kq (Y7 (x:=(nth t.nodes j).leaf) (by omega)) rfl rfl ?_|refine kq (QjJ (v:=(nth t.nodes j).cap) f) rfl rfl ?_|intro _)
     refine⟨j+1,by omega,by omega,?_⟩
     refine⟨rfl,?_,?_,rfl⟩
     repeat'(first|exact ze3|refine ze2 ?_ ?_|refine ze4 ?_|exact ze5|fail)
     all_goals exact zp (by first|rfl|(rw[Qtw a];simp[txN]))
    ·obtain rfl:j=t.nodes.length:=by omega
     repeat'(first|(refine zhm fun hb=>?_;try exact zab)|refine Qd ?_|(apply zch;exact zcg)|exact zhk|refine zg3 ?_ ?_|intro _)
     refine zr [] ?_ ?_
     repeat'(first|exact ze3|refine ze2 ?_ ?_|refine ze4 ?_|exact ze5|fail)
     all_goals exact zp (by first|rfl|(rw[Xal];rfl))

def Q1(x:Int):List UInt8:=if 0<=x/\x<=1000000000 then numT x.toNat else[]
theorem Qx(x:Int):(Q1 x).length<=10:=by
 unfold Q1
 split
 ·exact QaU 9 _ (by omega)
 ·simp
theorem ZO{x:Int}(h:0<=x/\x<=1000000000):Q1 x=numT x.toNat:=if_pos h
theorem Qbj{x:Int}(h:x<0\/1000000000<x):Q1 x=[]:=if_neg (by omega)
theorem VO{x:Int}:zAc 105 [zI x] [.d (.s (Q1 x))] []:=by
 refine zAC func105 fun w0 Z=>?_
 repeat'(first|(refine zhm fun hb=>?_;try exact zab)|refine zUto ?_|refine zg2 ?_ ?_|refine zqj W7 ?_|intro _)
 ·refine zr [] ?_ ?_
  repeat'(first|exact ze3|refine ze2 ?_ ?_|refine ze4 ?_|exact ze5|fail)
  exact zp (Qbj hb).symm
 refine Qa (fun(i:Nat×List UInt8)=>⟨26,[(0,zI (i.1:Int)),(3,.d (.s i.2))],[]⟩) (fun i=>Q1 x=numT i.1++i.2/\i.1<=1000000000) (fun i=>i.1) (x.toNat,[]) ⟨by rw[ZO hb];simp,by omega⟩ ?_ ?_
 ·refine⟨rfl,?_,?_,rfl⟩
  repeat'(first|exact ze3|refine ze2 ?_ ?_|refine ze4 ?_|exact ze5|fail)
 ·intro i b
  obtain⟨a,hn⟩:=b
  have c:=Qx x
  rw[a,Xab]at c
  repeat'(first|(refine zhm fun hb=>?_;try exact zab)|refine zUto ?_|refine zg2 ?_ ?_|intro _)
  ·refine⟨(i.1 / 10,[UInt8.ofNat (48+i.1 % 10)]++i.2),⟨by rw[a,XD (by omega)];simp,by simp only;omega⟩,by simp only;omega,?_⟩
   refine⟨rfl,?_,?_,rfl⟩
   repeat'(first|exact ze3|refine ze2 ?_ ?_|refine ze4 ?_|exact ze5|fail)
   refine zp ?_
   rfl
  ·refine zr [] ?_ ?_
   repeat'(first|exact ze3|refine ze2 ?_ ?_|refine ze4 ?_|exact ze5|fail)
   refine zp ?_
   rw[a,Vy (by omega)]
   rfl
theorem ZB{x:Int}:zAc 96 [zI x] [.d (.s (Q1 x))] []:=by
 by_cases h:0<=x/\x<=1000000000
 ·rw[ZO h]
  have:=Qjj x.toNat (by omega)
  rwa [show((x.toNat:Nat):Int)=x by omega]at this
 ·rw[Qbj (by omega)]
  refine zAC func96 fun w0 Z=>?_
  repeat'(first|(refine zhm fun hb=>?_;try exact zab)|refine QcZ ?_|(apply zch;exact zcg)|exact zhk|refine zg3 ?_ ?_|refine zqd Wh ?_|intro _)
  refine zr [] ?_ ?_
  repeat'(first|exact ze3|refine ze2 ?_ ?_|refine ze4 ?_|exact ze5|fail)

def cmdD(c:Cmd):List D:=[.n .i64 c.kind,.n .i64 c.job.id,.n .i64 c.job.prio,.n .i64 c.job.nodes,.n .i64 c.job.need.a,.n .i64 c.job.need.b,.n .i64 c.job.need.c,.n .i64 c.job.lic.a,.n .i64 c.job.lic.b,.n .i64 c.job.lic.c,.n .i64 c.job.wall,.n .i64 c.job.level,.n .i64 c.n,.n .i64 c.lic.a,.n .i64 c.lic.b,.n .i64 c.lic.c]
theorem QuV{c:Cmd}:zAc 148 [cmdA c] [cmdA c] []:=by
 refine zAC func148 fun w0 Z=>?_
 repeat'(first|(refine zhm fun hb=>?_;try exact zab)|refine zUto ?_|refine zg2 ?_ ?_|refine kc (QbR (x:=c.lic)) rfl rfl ?_|refine kc (Qe5 (x:=c.job)) rfl rfl ?_|intro _)
 exact zrr
end
end Go.Proofs.YtkdniahincpmaaaGreat
