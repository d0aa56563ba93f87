/-
  Topologies as text: NumText, VecText, TopoText of the reference; the text tells the topology.
-/
import Derived.Test.YtihgfennoalocaaGreatKB7
import Derived.Test.YtihgfennoalocaaGreatKB9
set_option maxRecDepth 100000
set_option maxHeartbeats 16000000
namespace Go.Proofs.YtihgfennoalocaaGreat
open Go Go.RowKit Tryz
section
attribute [local irreducible] AWp QJ OpOk ACalls ChA QsOk MCalls EnC PY

def numT(n:Nat):List UInt8:=if n<10 then[UInt8.ofNat (48+n)]else numT (n / 10)++[UInt8.ofNat (48+n % 10)]
theorem WZ{n:Nat}(h:n<10):numT n=[UInt8.ofNat (48+n)]:=by rw[numT,if_pos h]
theorem Zx{n:Nat}(h:¬n<10):numT n=numT (n / 10)++[UInt8.ofNat (48+n % 10)]:=by rw[numT,if_neg h]
theorem Qao:∀(k n:Nat),n<10 ^ (k+1)->(numT n).length<=k+1
 | 0,n,h=>by rw[WZ (by omega)];simp
 | k+1,n,h=>by
  by_cases h1:n<10
  ·rw[WZ h1];simp
  ·rw[Zx h1,Xac,XaG]
   have:=Qao k (n / 10) (by rw[Nat.pow_succ]at h;omega)
   omega
theorem QfZ{n:Nat}(h:n<10):(UInt8.ofNat (48+n)).toNat=48+n:=by
 rw[UInt8.toNat_ofNat'];omega
theorem QqE:∀(n:Nat),∀b∈numT n,48<=b.toNat/\b.toNat<=57:=by
 intro n
 induction n using Nat.strongRecOn with
 | _ n ih=>
  intro b hb
  by_cases h:n<10
  ·rw[WZ h,XaM]at hb
   subst hb
   rw[QfZ h];omega
  ·rw[Zx h,Xag,XaM]at hb
   rcases hb with hb|rfl
   ·exact ih (n / 10) (by omega) b hb
   ·rw[QfZ (by omega)];omega
def numV(l:List UInt8):Nat:=l.foldl (fun v b=>10*v+(b.toNat-48)) 0
theorem QrJ:∀(n:Nat),numV (numT n)=n:=by
 intro n
 induction n using Nat.strongRecOn with
 | _ n ih=>
  by_cases h:n<10
  ·rw[WZ h]
   simp only[numV,Xbj,List.foldl_nil,QfZ h]
   omega
  ·rw[Zx h,numV,XaQ]
   have:=ih (n / 10) (by omega)
   unfold numV at this
   rw[this]
   simp only[Xbj,List.foldl_nil,QfZ (show n % 10<10 by omega)]
   omega
theorem Qqw{n m:Nat}(h:numT n=numT m):n=m:=by rw[<-QrJ n,h,QrJ]
theorem cutU{q:UInt8}:∀{x y x' y':List UInt8},(∀b∈x,b≠q)->(∀b∈x',b≠q)->x++q::y=x'++q::y'->x=x'/\y=y'
 | [],y,[],y',_,_,h=>⟨rfl,by simpa using h⟩
 | [],y,b::x',y',_,h2,h=>by
  injection h with h _
  exact absurd h.symm (h2 b Xaa)
 | b::x,y,[],y',h1,_,h=>by
  injection h with h _
  exact absurd h (h1 b Xaa)
 | b::x,y,b'::x',y',h1,h2,h=>by
  injection h with e h
  obtain⟨g1,g2⟩:=cutU (fun c hc=>h1 c (Xae _ hc)) (fun c hc=>h2 c (Xae _ hc)) h
  exact⟨by rw[e,g1],g2⟩
theorem Qnz{n:Nat}{q:UInt8}(hq:q.toNat<48):∀b∈numT n,b≠q:=fun b hb e=>by
 have:=(QqE n b hb).1
 rw[e]at this;omega
theorem QcE{q:UInt8}(hq:q.toNat<48){n m:Nat}{y y':List UInt8}(h:numT n++q::y=numT m++q::y'):n=m/\y=y':=by
 obtain⟨g1,g2⟩:=cutU (Qnz hq) (Qnz hq) h
 exact⟨Qqw g1,g2⟩
def txS:List UInt8:=[115,119,105,116,99,104,32]
def txN:List UInt8:=[110,111,100,101,32]
def swT(p:Int):List UInt8:=txS++(numT p.toNat++[10])
def vcT(v:V3):List UInt8:=numT v.a.toNat++47::(numT v.b.toNat++47::numT v.c.toNat)
def ndT(n:X6):List UInt8:=txN++(numT n.leaf.toNat++32::(vcT n.cap++[10]))
theorem Zs{x y:Int}(hx:0<=x)(hy:0<=y)(h:x.toNat=y.toNat):x=y:=by omega
def nonN(n:X6):Prop:=0<=n.leaf/\0<=n.cap.a/\0<=n.cap.b/\0<=n.cap.c
theorem Qtf{n m:X6}{y y':List UInt8}(hn:nonN n)(hm:nonN m)(h:ndT n++y=ndT m++y'):n=m/\y=y':=by
 obtain⟨h1,h2,h3,h4⟩:=hn
 obtain⟨k1,k2,k3,k4⟩:=hm
 simp only[ndT,vcT,Xaq,Xbz,Xa5]at h
 have h:=List.append_cancel_left h
 obtain⟨e1,h⟩:=QcE (by decide) h
 obtain⟨e2,h⟩:=QcE (by decide) h
 obtain⟨e3,h⟩:=QcE (by decide) h
 obtain⟨e4,h⟩:=QcE (by decide) h
 refine⟨?_,h⟩
 obtain⟨l,⟨a,b,c⟩⟩:=n
 obtain⟨l',⟨a',b',c'⟩⟩:=m
 simp only at *
 rw[Zs h1 k1 e1,Zs h2 k2 e2,Zs h3 k3 e3,Zs h4 k4 e4]
theorem QmP:∀{l l':List X6},(∀n∈l,nonN n)->(∀n∈l',nonN n)->l.flatMap ndT=l'.flatMap ndT->l=l'
 | [],[],_,_,_=>rfl
 | [],m::l',_,_,h=>by simp[ndT,txN]at h
 | n::l,[],_,_,h=>by simp[ndT,txN]at h
 | n::l,m::l',h1,h2,h=>by
  rw[Xbk,Xbk]at h
  obtain⟨e1,e2⟩:=Qtf (h1 n Xaa) (h2 m Xaa) h
  rw[e1,QmP (fun x hx=>h1 x (Xae _ hx)) (fun x hx=>h2 x (Xae _ hx)) e2]
theorem Qki:∀{p p':List Int} {l l':List X6},(∀x∈p,0<=x)->(∀x∈p',0<=x)->(∀n∈l,nonN n)->(∀n∈l',nonN n)->p.flatMap swT++l.flatMap ndT=p'.flatMap swT++l'.flatMap ndT->p=p'/\l=l'
 | [],[],l,l',_,_,h3,h4,h=>⟨rfl,QmP h3 h4 (by simpa using h)⟩
 | [],x::p',l,l',_,_,_,_,h=>by
  cases l with
  | nil=>simp[swT,txS]at h
  | cons n l=>simp[swT,txS,ndT,txN]at h
 | x::p,[],l,l',_,_,_,_,h=>by
  cases l' with
  | nil=>simp[swT,txS]at h
  | cons n l=>simp[swT,txS,ndT,txN]at h
 | x::p,x'::p',l,l',h1,h2,h3,h4,h=>by
  simp only[Xbk,swT,Xaq,Xbz,Xa5]at h
  have h:=List.append_cancel_left h
  obtain⟨e1,h⟩:=QcE (by decide) h
  obtain⟨g1,g2⟩:=Qki (fun y hy=>h1 y (Xae _ hy)) (fun y hy=>h2 y (Xae _ hy)) h3 h4 h
  exact⟨by rw[Zs (h1 x Xaa) (h2 x' Xaa) e1,g1],g2⟩
def Qtl(t:QW):List UInt8:=(t.parents.drop 1).flatMap swT++t.nodes.flatMap ndT
theorem Qpm{t t':QW}(h:QY t)(h':QY t')(e:Qtl t=Qtl t'):t=t':=by
 have key:∀{t:QW},QY t->(∀x∈t.parents.drop 1,0<=x)/\(∀n∈t.nodes,nonN n)/\t.parents=0::t.parents.drop 1:=fun {t} h=>by
  refine⟨fun x hx=>?_,fun n hn=>?_,?_⟩
  ·obtain⟨i,hi,rfl⟩:=Xba hx
   rw[XaN]at hi
   have h1:=(h.valid (i+1) (by omega) (by omega)).1
   rw[List.getElem_drop]
   have e:nth t.parents (i+1)=t.parents[1+i]'(by omega):=by
    rw[nth,List.getD_eq_getElem?_getD,List.getElem?_eq_getElem (by omega)]
    simp only[XaP,Nat.add_comm]
   rwa [e]at h1
  ·obtain⟨i,hi,rfl⟩:=Xba hn
   obtain⟨⟨h1,_⟩,_,h2⟩:=h.nodes i hi
   have e:nth t.nodes i=t.nodes[i]:=by rw[nth,List.getD_eq_getElem?_getD,List.getElem?_eq_getElem hi];rfl
   rw[e]at h1 h2
   simp only[Qh,Xaf,Yr]at h2
   exact⟨h1,h2.1.1.1,h2.1.2.1,h2.2.1⟩
  ·have h1:=h.len.1
   have h2:=h.zero
   cases hp:t.parents with
   | nil=>rw[hp]at h1;simp at h1
   | cons a l=>
    rw[hp]at h2
    have:a=0:=by simpa [nth] using h2
    rw[this];rfl
 obtain⟨k1,k2,k3⟩:=key h
 obtain⟨j1,j2,j3⟩:=key h'
 obtain⟨g1,g2⟩:=Qki k1 j1 k2 j2 e
 obtain⟨p,n⟩:=t
 obtain⟨p',n'⟩:=t'
 simp only at *
 rw[k3,j3,g1,g2]
def Qvz(x:Int):List UInt8:=numT x.toNat
theorem Yc{n:Nat}(h:n<=1000000000):(numT n).length<=10:=Qao 9 _ (by omega)
theorem Qhu:∀(n:Nat),n<=1000000000->zAc 177 [zI (n:Int)] [.d (.s (numT n))] []:=by
 intro n
 induction n using Nat.strongRecOn with
 | _ n ih=>
  intro hn
  refine zAC func177 fun w0 Z=>?_
  have hl:=Qao 9 (n / 10) (by omega)
  repeat'(first|(refine zhm fun hb=>?_;try exact zab)|refine Qb2 ?_|(apply zch;exact zcg)|exact zhk|refine zg3 ?_ ?_|refine zqd Y1 ?_|refine kc (ih (n / 10) (by omega) (by omega)) rfl rfl ?_|intro _|fail)
  ·refine zr [] ?_ ?_
   repeat'(first|exact ze3|refine ze2 ?_ ?_|refine ze4 ?_|exact ze5|fail)
   refine zp ?_
   rw[WZ (by omega)]
   rfl
  ·refine zr [] ?_ ?_
   repeat'(first|exact ze3|refine ze2 ?_ ?_|refine ze4 ?_|exact ze5|fail)
   refine zp ?_
   rw[Zx (n:=n) (by omega)]
   rfl
theorem YN{x:Int}(h:0<=x/\x<=1000000000):zAc 177 [zI x] [.d (.s (numT x.toNat))] []:=by
 have:=Qhu x.toNat (by omega)
 rwa [Xax h.1]at this
theorem Qr5{v:V3}(h:Qh v=true):(0<=v.a/\v.a<=1000000)/\(0<=v.b/\v.b<=1000000)/\(0<=v.c/\v.c<=1000000):=by
 simp only[Qh,Xaf,Yr]at h
 exact⟨h.1.1,h.1.2,h.2⟩
theorem Qmx{v:V3}(h:Qh v=true):(vcT v).length<=32:=by
 obtain⟨h1,h2,h3⟩:=Qr5 h
 have k1:=Yc (n:=v.a.toNat) (by omega)
 have k2:=Yc (n:=v.b.toNat) (by omega)
 have k3:=Yc (n:=v.c.toNat) (by omega)
 simp only[vcT,Xac,Xar]
 omega
theorem Qih{v:V3}(h:Qh v=true):zAc 189 [vecA v] [.d (.s (vcT v))] []:=by
 refine zAC func189 fun w0 Z=>?_
 obtain⟨h1,h2,h3⟩:=Qr5 h
 have k1:=Yc (n:=v.a.toNat) (by omega)
 have k2:=Yc (n:=v.b.toNat) (by omega)
 have k3:=Yc (n:=v.c.toNat) (by omega)
 have c1:=JV (v:=v)
 rw[h]at c1
 repeat'(first|(refine zhm fun hb=>?_;try exact zab)|refine Qb2 ?_|(apply zch;exact zcg)|exact zhk|refine zg3 ?_ ?_|refine kc (YN (x:=v.a) (by omega)) rfl rfl ?_|refine kc (YN (x:=v.b) (by omega)) rfl rfl ?_|refine kc (YN (x:=v.c) (by omega)) rfl rfl ?_|refine kq (YN (x:=v.a) (by omega)) rfl rfl ?_|refine kq (YN (x:=v.b) (by omega)) rfl rfl ?_|refine kq (YN (x:=v.c) (by omega)) rfl rfl ?_|intro _|fail)
 refine zr [] ?_ ?_
 repeat'(first|exact ze3|refine ze2 ?_ ?_|refine ze4 ?_|exact ze5|fail)
 refine zp ?_
 simp[vcT]
theorem Qp6{l:List Int}{i:Nat}(h:i<l.length):(l.take (i+1)).flatMap swT=(l.take i).flatMap swT++txS++numT (nth l i).toNat++[10]:=by
 have e:nth l i=l[i]:=by simp[nth,h]
 rw[XaB h,XbT,e]
 simp[swT]
theorem Qqq{l:List X6}{i:Nat}(h:i<l.length):(l.take (i+1)).flatMap ndT=(l.take i).flatMap ndT++txN++numT (nth l i).leaf.toNat++[32]++vcT (nth l i).cap++[10]:=by
 have e:nth l i=l[i]:=by simp[nth,h]
 rw[XaB h,XbT,e]
 simp[ndT]
theorem Qh8{l:List Int}{i:Nat}:nth (l.drop 1) i=nth l (i+1):=by
 simp only[nth,List.getD_eq_getElem?_getD,List.getElem?_drop,Nat.add_comm]
theorem Qpi:∀{l:List Int},(∀x∈l,0<=x/\x<=1000000000)->(l.flatMap swT).length<=18*l.length
 | [],_=>by simp
 | x::l,h=>by
  have ih:=Qpi (l:=l) fun y hy=>h y (Xae _ hy)
  have hx:=h x Xaa
  have:=Yc (n:=x.toNat) (by omega)
  rw[Xbk,Xac,Xar,swT,Xac,Xac]
  simp only[txS,Xar,XaU]
  omega
theorem QrZ:∀{l:List X6},(∀n∈l,(0<=n.leaf/\n.leaf<=1000000000)/\Qh n.cap=true)->(l.flatMap ndT).length<=50*l.length
 | [],_=>by simp
 | x::l,h=>by
  have ih:=QrZ (l:=l) fun y hy=>h y (Xae _ hy)
  have hx:=h x Xaa
  have:=Yc (n:=x.leaf.toNat) (by omega)
  have:=Qmx hx.2
  rw[Xbk,Xac,Xar,ndT,Xac,Xac,Xar,Xac]
  simp only[txN,Xar,XaU]
  omega
theorem QjS{α:Type}[Inhabited α]{l:List α}{x:α}(h:x∈l):∃i,i<l.length/\nth l i=x:=by
 obtain⟨i,hi,e⟩:=Xba h
 exact⟨i,hi,by rw[nth,List.getD_eq_getElem?_getD,List.getElem?_eq_getElem hi];exact e⟩
theorem QeL{t:QW}(h:QY t):zAc 124 [Yy t] [.d (.s (Qtl t))] []:=by
 refine zAC func124 fun w0 Z=>?_
 have hlp:=h.len
 have hln:=h.nlen
 have hl1:=Qb t.parents
 have hl2:=Qr t.nodes
 have c1:=Zb (t:=t) (by omega) (by omega)
 rw[show Jq t=true from by unfold Jq;simp[h]]at c1
 have hp:∀x∈t.parents.drop 1,0<=x/\x<=1000000000:=fun x hx=>by
  obtain⟨i,hi,e⟩:=QjS hx
  rw[XaN]at hi
  rw[Qh8]at e
  have:=h.valid (i+1) (by omega) (by omega)
  rw[e]at this
  omega
 have hn:∀n∈t.nodes,(0<=n.leaf/\n.leaf<=1000000000)/\Qh n.cap=true:=fun n hn=>by
  obtain⟨i,hi,e⟩:=QjS hn
  obtain⟨h1,_,h2⟩:=h.nodes i hi
  rw[e]at h1 h2
  exact⟨by omega,h2⟩
 have hL1:=Qpi hp
 rw[XaN]at hL1
 repeat'(first|(refine zhm fun hb=>?_;try exact zab)|refine Qe ?_|(apply zch;exact zcg)|exact zhk|refine zg3 ?_ ?_|intro _|fail)
 refine Qa (fun(k:Nat)=>⟨48,[(1,.ptr 1 0),(3,.d (.s (((t.parents.drop 1).take k).flatMap swT))),(4,zI ((k+1:Nat):Int))],[(1,.box 43 [zL (intE t.parents),zL (Qz t.nodes)])]⟩) (fun k=>k+1<=t.parents.length) (fun k=>t.parents.length-k) 0 (by exact hlp.1) ?_ ?_
 ·exact zll
 ·intro k hk
  have hlk:=Qpi (l:=(t.parents.drop 1).take k) fun x hx=>hp x (XaC hx)
  have hlk2:((t.parents.drop 1).take k).length=k:=by rw[Xai,XaN];omega
  by_cases hk':k+1<t.parents.length
  ·have hv:=h.valid (k+1) (by omega) hk'
   have hnl:=Yc (n:=(nth t.parents (k+1)).toNat) (by omega)
   repeat'(first|(refine zhm fun hb=>?_;try exact zab)|refine Qe ?_|(apply zch;exact zcg)|exact zhk|refine zg3 ?_ ?_|refine kc (YN (x:=nth t.parents (k+1)) (by omega)) rfl rfl ?_|refine kq (YN (x:=nth t.parents (k+1)) (by omega)) rfl rfl ?_|intro _|fail)
   refine⟨k+1,by omega,by omega,?_⟩
   refine⟨rfl,?_,?_,rfl⟩
   repeat'(first|exact ze3|refine ze2 ?_ ?_|refine ze4 ?_|exact ze5|fail)
   all_goals exact zp (by first|rfl|(rw[Qp6 (by rw[XaN];omega),Qh8];rfl))
  ·have hke:k=t.parents.length-1:=by omega
   have hpre:((t.parents.drop 1).take k).flatMap swT=(t.parents.drop 1).flatMap swT:=by rw[Xaz (by rw[XaN];omega)]
   rw[hpre]
   repeat'(first|(refine zhm fun hb=>?_;try exact zab)|refine Qe ?_|(apply zch;exact zcg)|exact zhk|refine zg3 ?_ ?_|intro _|fail)
   refine Qa (fun(j:Nat)=>⟨48,[(3,.d (.s ((t.parents.drop 1).flatMap swT++(t.nodes.take j).flatMap ndT))),(28,zL (Qz t.nodes)),(29,zI (t.nodes.length:Nat)),(30,zI j)],[]⟩) (fun j=>j<=t.nodes.length) (fun j=>t.nodes.length-j) 0 (by exact Xab _) ?_ ?_
   ·refine⟨rfl,?_,?_,rfl⟩
    repeat'(first|exact ze3|refine ze2 ?_ ?_|refine ze4 ?_|exact ze5|fail)
    all_goals exact zp (by first|rfl|simp)
   ·intro j hj
    have hlj:=QrZ (l:=t.nodes.take j) fun x hx=>hn x (XaC hx)
    have hlj2:(t.nodes.take j).length=j:=by rw[Xai];omega
    have hll:((t.parents.drop 1).flatMap swT++(t.nodes.take j).flatMap ndT).length<=5000:=by rw[Xac];omega
    by_cases hj':j<t.nodes.length
    ·obtain⟨g1,g2⟩:=hn _ (QO hj')
     have hnl:=Yc (n:=(nth t.nodes j).leaf.toNat) (by omega)
     have hvl:=Qmx g2
     repeat'(first|(refine zhm fun hb=>?_;try exact zab)|refine Qe ?_|(apply zch;exact zcg)|exact zhk|refine zg3 ?_ ?_|refine kc (YN (x:=(nth t.nodes j).leaf) (by omega)) rfl rfl ?_|refine kc (Qih (v:=(nth t.nodes j).cap) g2) rfl rfl ?_|refine kq (YN (x:=(nth t.nodes j).leaf) (by omega)) rfl rfl ?_|refine kq (Qih (v:=(nth t.nodes j).cap) g2) rfl rfl ?_|intro _|fail)
     refine⟨j+1,by omega,by omega,?_⟩
     refine⟨rfl,?_,?_,rfl⟩
     repeat'(first|exact ze3|refine ze2 ?_ ?_|refine ze4 ?_|exact ze5|fail)
     all_goals exact zp (by first|rfl|(rw[Qqq hj'];simp[txN]))
    ·obtain rfl:j=t.nodes.length:=by omega
     repeat'(first|(refine zhm fun hb=>?_;try exact zab)|refine Qe ?_|(apply zch;exact zcg)|exact zhk|refine zg3 ?_ ?_|intro _|fail)
     refine zr [] ?_ ?_
     repeat'(first|exact ze3|refine ze2 ?_ ?_|refine ze4 ?_|exact ze5|fail)
     all_goals exact zp (by first|rfl|(rw[Xap];rfl))

def Jn(x:Int):List UInt8:=if 0<=x/\x<=1000000000 then numT x.toNat else[]
theorem Qv(x:Int):(Jn x).length<=10:=by
 unfold Jn
 split
 ·exact Qao 9 _ (by omega)
 ·simp
theorem Xq{x:Int}(h:0<=x/\x<=1000000000):Jn x=numT x.toNat:=if_pos h
theorem Qed{x:Int}(h:x<0\/1000000000<x):Jn x=[]:=if_neg (by omega)
theorem W9{x:Int}:zAc 128 [zI x] [.d (.s (Jn x))] []:=by
 refine zAC func128 fun w0 Z=>?_
 repeat'(first|(refine zhm fun hb=>?_;try exact zab)|refine zUto ?_|refine zg2 ?_ ?_|refine zqj Wz ?_|intro _|fail)
 ·refine zr [] ?_ ?_
  repeat'(first|exact ze3|refine ze2 ?_ ?_|refine ze4 ?_|exact ze5|fail)
  exact zp (Qed hb).symm
 refine Qa (fun(i:Nat×List UInt8)=>⟨26,[(0,zI (i.1:Int)),(3,.d (.s i.2))],[]⟩) (fun i=>Jn x=numT i.1++i.2/\i.1<=1000000000) (fun i=>i.1) (x.toNat,[]) ⟨by rw[Xq hb];simp,by omega⟩ ?_ ?_
 ·refine⟨rfl,?_,?_,rfl⟩
  repeat'(first|exact ze3|refine ze2 ?_ ?_|refine ze4 ?_|exact ze5|fail)
 ·intro i hi
  obtain⟨hs,hn⟩:=hi
  have hl:=Qv x
  rw[hs,Xac]at hl
  repeat'(first|(refine zhm fun hb=>?_;try exact zab)|refine zUto ?_|refine zg2 ?_ ?_|intro _|fail)
  ·refine⟨(i.1 / 10,[UInt8.ofNat (48+i.1 % 10)]++i.2),⟨by rw[hs,Zx (by omega)];simp,by simp only;omega⟩,by simp only;omega,?_⟩
   refine⟨rfl,?_,?_,rfl⟩
   repeat'(first|exact ze3|refine ze2 ?_ ?_|refine ze4 ?_|exact ze5|fail)
   refine zp ?_
   rfl
  ·refine zr [] ?_ ?_
   repeat'(first|exact ze3|refine ze2 ?_ ?_|refine ze4 ?_|exact ze5|fail)
   refine zp ?_
   rw[hs,WZ (by omega)]
   rfl
theorem VV{x:Int}:zAc 177 [zI x] [.d (.s (Jn x))] []:=by
 by_cases h:0<=x/\x<=1000000000
 ·rw[Xq h]
  have:=Qhu x.toNat (by omega)
  rwa [show((x.toNat:Nat):Int)=x by omega]at this
 ·rw[Qed (by omega)]
  refine zAC func177 fun w0 Z=>?_
  repeat'(first|(refine zhm fun hb=>?_;try exact zab)|refine Qb2 ?_|(apply zch;exact zcg)|exact zhk|refine zg3 ?_ ?_|refine zqd Y1 ?_|intro _|fail)
  refine zr [] ?_ ?_
  repeat'(first|exact ze3|refine ze2 ?_ ?_|refine ze4 ?_|exact ze5|fail)
end
end Go.Proofs.YtihgfennoalocaaGreat
