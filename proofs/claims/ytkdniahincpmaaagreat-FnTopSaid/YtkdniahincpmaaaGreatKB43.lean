/-
  Plain: what a change leaves free at each time; what runs ask for, and that a room for them is a matter of sums.
-/
import Derived.Test.YtkdniahincpmaaaGreatKB41
set_option maxRecDepth 100000
set_option maxHeartbeats 16000000
namespace Go.Proofs.YtkdniahincpmaaaGreat
open Go Go.RowKit Tryz
section

theorem QaI(l:List Pt)(x:Pt)(t:Int):QL (l++[x]) t=if x.at'<=t then x.free else QL l t:=by
 simp[QL,List.foldl_append]
theorem Qcd{t u:Int}:∀{l:List Pt} {v:V3},(∀x∈l,x.at'<=t↔x.at'<=u)->l.foldl (fun v x=>if x.at'<=t then x.free else v) v=l.foldl (fun v x=>if x.at'<=u then x.free else v) v
 | [],_,_=>rfl
 | x::l,v,h=>by
  rw[XaU,XaU]
  have h1:=h x Xac
  by_cases hx:x.at'<=t
  ·rw[if_pos hx,if_pos (h1.1 hx)];exact Qcd fun y hy=>h y (Xae _ hy)
  ·rw[if_neg hx,if_neg (fun e=>hx (h1.2 e))];exact Qcd fun y hy=>h y (Xae _ hy)
theorem QoB{l:List Pt}{a b t u:Int}{by':V3->Option V3}(h:∀x,(x=a\/x=b\/x∈atsI l)->(x<=t↔x<=u)):chgV l a b by' t=chgV l a b by' u:=by
 have e:QL l t=QL l u:=Qcd fun x hx=>h x.at' (.inr (.inr (List.mem_map_of_mem hx)))
 have ha:=h a (.inl rfl)
 have hb:=h b (.inr (.inl rfl))
 unfold chgV
 rw[e]
 by_cases c:a<=t/\t<b
 ·rw[if_pos c,if_pos (by omega)]
 ·rw[if_neg c,if_neg (by omega)]
theorem QoA{out:List Pt}{t:Int}(h0:out≠[])(h:(nth out (out.length-1)).at'<=t):QL out t=(nth out (out.length-1)).free:=by
 have hl:0<out.length:=Xbb.2 h0
 have e:out=out.take (out.length-1)++[nth out (out.length-1)]:=by
  rw[<-Qo (by omega),show out.length-1+1=out.length by omega,Xak]
 rw[e,QaI,<-e,if_pos h]
theorem Qjb{l:List Pt}{a b:Int}{by':V3->Option V3}:∀{ts:List Int} {out q:List Pt},risI ts->(∀x,(x=a\/x=b\/x∈atsI l)->x∈ts\/∀t∈ts,x<t)->(∀t∈ts,out≠[]->(nth out (out.length-1)).at'<t)->
  (∀τ,0<=τ->(∀t∈ts,τ<t)->chgV l a b by' τ=some (QL out τ))->Vf l a b by' ts out=some q->∀τ,0<=τ->chgV l a b by' τ=some (QL q τ)
 | [],out,q,_,_,_,h,e=>by
  injection e with e
  subst e
  exact fun τ h0=>h τ h0 (fun t ht=>by cases ht)
 | t::ts,out,q,hr,hT,hL,h,e=>by
  unfold Vf at e
  split at e
  ·cases e
  ·rename_i v hv
   have hr':=hr
   unfold risI at hr'
   rw[Xav]at hr'
   have hlt:(nth (V1 out t v) ((V1 out t v).length-1)).at'<=t:=by
    unfold V1
    split
    ·rw[Xaa]
     simp only[Xao,XaA,Xa8,XbX]
     rw[W2];exact Xbe _
    ·rename_i hc
     have:=hL t Xac (fun e=>hc (.inl e))
     omega
   refine Qjb (out:=V1 out t v) hr'.2 (fun x hx=>?_) (fun u hu _=>?_) (fun τ h0 hτ=>?_) e
   ·rcases hT x hx with hm|hm
    ·rcases Xai.1 hm with rfl|hm
     ·exact .inr hr'.1
     ·exact .inl hm
    ·exact .inr fun u hu=>hm u (Xae _ hu)
   ·have:=hr'.1 u hu
    omega
   ·by_cases hc:τ<t
    ·rw[h τ h0 (fun u hu=>by
      rcases Xai.1 hu with rfl|hu
      ·exact hc
      ·exact hτ u hu)]
     unfold V1
     split
     ·rw[QaI,if_neg (by simp only;omega)]
     ·rfl
    ·rw[QoB (u:=t) (fun x hx=>?_),hv]
     ·unfold V1
      split
      ·rw[QaI,if_pos (by simp only;omega)]
      ·rename_i hn
       have hne:out≠[]:=fun e=>hn (.inl e)
       have:=hL t Xac hne
       rw[QoA hne (by omega)]
       exact congrArg some (Classical.not_not.1 fun e=>hn (.inr fun e'=>e e'.symm))
     ·rcases hT x hx with hm|hm
      ·rcases Xai.1 hm with rfl|hm
       ·constructor <;> intro <;> omega
       ·have h1:=hr'.1 x hm
        have h2:=hτ x hm
        constructor <;> intro <;> omega
      ·have:=hm t Xac
       constructor <;> intro <;> omega
theorem QeP{l:List Pt}{a b:Int}{by':V3->Option V3}:∀{ts:List Int} {out:List Pt},(∀t∈ts,(chgV l a b by' t).isSome=true)->∃q,Vf l a b by' ts out=some q/\q.length<=out.length+ts.length
 | [],out,_=>⟨out,rfl,Xaj _⟩
 | t::ts,out,h=>by
  obtain⟨v,hv⟩:=XaO.1 (h t Xac)
  obtain⟨q,h1,h2⟩:=QeP (out:=V1 out t v) fun u hu=>h u (Xae _ hu)
  refine⟨q,?_,?_⟩
  ·unfold Vf
   rw[hv]
   exact h1
  ·have:=V7 out t v
   rw[Xao]
   omega
theorem Qjn{l q:List Pt}{a b:Int}{v:V3}(h:Vn l a b v=some q):∀τ,0<=τ->QL l τ=if a<=τ/\τ<b then addV (QL q τ) v else QL q τ:=by
 unfold Vn at h
 split at h
 ·rename_i f
  simp only[Xab]at f
  have j:=JH.1 f.1.1
  obtain⟨n,o⟩:=XI j a b
  have g:=Qg0 j f.1.2
  unfold chgP at h
  cases e:Vf l a b (fun x=>subO x v) (QM l a b) [] with
  | none=>rw[e]at h;cases h
  | some r=>
   rw[e]at h
   simp only[Xbi]at h
   split at h
   ·injection h with h
    subst h
    intro τ k
    obtain⟨ts,m⟩:=g.2
    have c:=Qjb (out:=[]) n (fun x hx=>.inl ((o x).2 (by rcases hx with h|h|h;exact .inr (.inl h);exact .inl h;exact .inr (.inr h)))) (fun _ _ h=>absurd rfl h) (fun σ hσ i=>by
     have:=i 0 (by rw[m];exact Xac)
     omega) e τ k
    by_cases d:a<=τ/\τ<b
    ·rw[if_pos d]
     rw[chgV,if_pos d]at c
     unfold subO valO at c
     split at c
     ·injection c with c
      rw[<-c]
      cases i:QL l τ
      simp[addV,QhE]
     ·cases c
    ·rw[if_neg d]
     rw[chgV,if_neg d]at c
     injection c
   ·cases h
 ·cases h
theorem Qf8{l:List Pt}{a b:Int}{v:V3}(hp:Jy l)(hs:Vx a b=true)(hv:Qf v=true)(hl:l.length+2<=200)(h:∀τ,a<=τ->τ<b->Vk v (QL l τ)=true):∃q,Vn l a b v=some q/\q.length<=l.length+2:=by
 obtain⟨q,d,e⟩:=QeP (l:=l) (a:=a) (b:=b) (by':=fun x=>subO x v) (ts:=QM l a b) (out:=[]) fun t _=>by
  unfold chgV
  split
  ·rename_i c
   show(subO (QL l t) v).isSome=true
   rw[Qu1 (h t c.1 c.2)];rfl
  ·rfl
 have h3:=Qbc (l:=l) (a:=a) (b:=b)
 rw[XaA]at e
 refine⟨q,?_,by omega⟩
 unfold Vn chgP
 rw[if_pos (by rw[JH.2 hp,hs,hv];rfl),d]
 simp only[Xbi]
 rw[if_pos (by omega)]

theorem Vb{l:List Int}{x:Int}:hasI l x=true↔x∈l:=by
 rw[Qbi]
 constructor
 ·rintro ⟨j,d,rfl⟩
  exact QC d
 ·exact fun h=>Jo h
def leV(x y:V3):Prop:=x.a<=y.a/\x.b<=y.b/\x.c<=y.c
def sumV:List V3->V3
 | []=>zV
 | v::l=>addV v (sumV l)
theorem Xs{x y:V3}(h1:x.a=y.a)(h2:x.b=y.b)(h3:x.c=y.c):x=y:=by
 cases x;cases y;simp_all
theorem QhM:∀(l m:List V3),sumV (l++m)=addV (sumV l) (sumV m)
 | [],m=>by cases h:sumV m;simp[sumV,addV,zV,h]
 | v::l,m=>by
  rw[Xa0,sumV,QhM l m,sumV]
  exact Xs (by simp only[addV];omega) (by simp only[addV];omega) (by simp only[addV];omega)
theorem Qdm(x:V3):leV x x:=⟨Xbe _,Xbe _,Xbe _⟩
theorem Qiq{x y z:V3}(h:leV x y)(h':leV y z):leV x z:=⟨Int.le_trans h.1 h'.1,Int.le_trans h.2.1 h'.2.1,Int.le_trans h.2.2 h'.2.2⟩
theorem Qaq:∀{l:List V3},(∀v∈l,leV zV v)->leV zV (sumV l)
 | [],_=>Qdm _
 | v::l,h=>by
  have h1:=h v Xac
  have h2:=Qaq fun u hu=>h u (Xae _ hu)
  simp only[leV,sumV,addV,zV]at *
  omega
theorem Qmu{l m:List V3}(h:l.Sublist m):(∀v∈m,leV zV v)->leV (sumV l) (sumV m):=by
 induction h with
 | slnil=>exact fun _=>Qdm _
 | @cons l m v _ ih=>
  intro b
  have c:=ih fun u hu=>b u (Xae _ hu)
  have h2:=b v Xac
  simp only[leV,sumV,addV,zV]at *
  omega
 | @cons_cons l m v _ ih=>
  intro b
  have c:=ih fun u hu=>b u (Xae _ hu)
  simp only[leV,sumV,addV]at *
  omega
def winB(now τ:Int)(x:Run):Bool:=decide (now<=τ)&&decide (τ<x.at'+x.job.wall)
def demN(now:Int)(xs:List Run)(k:Nat)(τ:Int):V3:=sumV ((xs.filter fun x=>winB now τ x&&hasI x.nodes (k:Int)).map fun x=>x.job.need)
def demL(now:Int)(xs:List Run)(τ:Int):V3:=sumV ((xs.filter fun x=>winB now τ x).map fun x=>x.job.lic)
theorem QaY(now:Int)(x:Run)(xs:List Run)(k:Nat)(τ:Int):demN now (x::xs) k τ=if(winB now τ x&&hasI x.nodes (k:Int))=true then addV x.job.need (demN now xs k τ)else demN now xs k τ:=by
 unfold demN
 rw[Xa6]
 split <;> rfl
theorem Qbt(now:Int)(x:Run)(xs:List Run)(τ:Int):demL now (x::xs) τ=if winB now τ x=true then addV x.job.lic (demL now xs τ)else demL now xs τ:=by
 unfold demL
 rw[Xa6]
 split <;> rfl
theorem Qme(now:Int)(xs ys:List Run)(k:Nat)(τ:Int):demN now (xs++ys) k τ=addV (demN now xs k τ) (demN now ys k τ):=by
 unfold demN
 rw[Xa9,XaG,QhM]
theorem Qma(now:Int)(xs ys:List Run)(τ:Int):demL now (xs++ys) τ=addV (demL now xs τ) (demL now ys τ):=by
 unfold demL
 rw[Xa9,XaG,QhM]
theorem J7{v:V3}(h:Qf v=true):leV zV v:=by
 obtain⟨a,b,c⟩:=Y4 h
 exact⟨a.1,b.1,c.1⟩
theorem Z0{j:Job}(h:Qk j=true):Qf j.need=true/\Qf j.lic=true:=by
 simp only[Qk,Xab]at h
 exact⟨h.1.1.1.2,h.1.1.2⟩
theorem Qej{α:Type}{p q:α->Bool}{l m:List α}(h:l.Sublist m):(∀x∈l,p x=true->q x=true)->(l.filter p).Sublist (m.filter q):=by
 induction h with
 | slnil=>exact fun _=>List.Sublist.slnil
 | @cons l m x _ ih=>
  intro a
  rw[Xa6 (p:=q)]
  split
  ·exact(ih a).cons _
  ·exact ih a
 | @cons_cons l m x _ ih=>
  intro a
  have b:=ih fun y hy=>a y (Xae _ hy)
  have d:=a x Xac
  rw[Xa6,Xa6 (p:=q)]
  by_cases c:p x=true
  ·rw[if_pos c,if_pos (d c)];exact b.cons_cons _
  ·rw[if_neg c]
   split
   ·exact b.cons _
   ·exact b
theorem Qk9{now now' τ:Int}{x:Run}(h:now<=now')(hw:winB now' τ x=true):winB now τ x=true:=by
 simp only[winB,Xab,decide_eq_true_eq]at *
 omega
theorem QsT{now now':Int}{xs ys:List Run}(h:ys.Sublist xs)(hn:now<=now')(hx:∀x∈xs,Qk x.job=true)(k:Nat)(τ:Int):leV (demN now' ys k τ) (demN now xs k τ):=by
 refine Qmu ((Qej h fun x _ hp=>?_).map _) fun v hv=>?_
 ·rw[Xab]at *
  exact⟨Qk9 hn hp.1,hp.2⟩
 ·obtain⟨x,a,rfl⟩:=Xaf.1 hv
  exact J7 (Z0 (hx x (Xay.1 a).1)).1
theorem Qtc{now now':Int}{xs ys:List Run}(h:ys.Sublist xs)(hn:now<=now')(hx:∀x∈xs,Qk x.job=true)(τ:Int):leV (demL now' ys τ) (demL now xs τ):=by
 refine Qmu ((Qej h fun x _ hp=>Qk9 hn hp).map _) fun v hv=>?_
 obtain⟨x,a,rfl⟩:=Xaf.1 hv
 exact J7 (Z0 (hx x (Xay.1 a).1)).2
theorem QeF{a b:Int}{v:V3}:∀{ns:List Int} {ps qs:List (List Pt)},(∀n∈ns,0<=n/\n.toNat<ps.length)->ns.Nodup->QaM a b v ns ps=some qs->qs.length=ps.length/\
  ∀k,k<ps.length->∀τ,0<=τ->QL (nth ps k) τ=if(a<=τ/\τ<b)/\(k:Int)∈ns then addV (QL (nth qs k) τ) v else QL (nth qs k) τ
 | [],ps,qs,_,_,e=>by
  injection e with e;subst e
  exact⟨rfl,fun k _ τ _=>by rw[if_neg (fun h=>by cases h.2)]⟩
 | n::ns,ps,qs,hn,hd,e=>by
  unfold QaM at e
  split at e
  ·cases e
  ·rename_i q hq
   have h1:=hn n Xac
   rw[XaW]at hd
   obtain⟨g1,g2⟩:=QeF (ns:=ns) (ps:=ps.set n.toNat q) (qs:=qs) (fun m hm=>by rw[XaM];exact hn m (Xae _ hm)) hd.2 e
   rw[XaM]at g1 g2
   refine⟨g1,fun k hk τ h0=>?_⟩
   have g:=g2 k hk τ h0
   rw[Qcx h1.2]at g
   by_cases hkn:n.toNat=k
   ·rw[if_pos hkn]at g
    have hkn':(k:Int)=n:=by omega
    rw[hkn',if_neg (fun h=>hd.1 h.2)]at g
    have hv:=Qjn hq τ h0
    rw[hkn]at hv
    rw[hv,hkn',g]
    by_cases hw:a<=τ/\τ<b
    ·rw[if_pos hw,if_pos ⟨hw,Xac⟩]
    ·rw[if_neg hw,if_neg (fun h=>hw h.1)]
   ·rw[if_neg hkn]at g
    rw[g]
    have hne:(k:Int)≠n:=by omega
    by_cases hm:(k:Int)∈ns
    ·by_cases hw:a<=τ/\τ<b
     ·rw[if_pos ⟨hw,hm⟩,if_pos ⟨hw,Xae _ hm⟩]
     ·rw[if_neg (fun h=>hw h.1),if_neg (fun h=>hw h.1)]
    ·rw[if_neg (fun h=>hm h.2),if_neg (fun h=>by
      rcases Xai.1 h.2 with h|h
      ·exact hne h
      ·exact hm h)]
theorem QfJ{a b:Int}{v:V3}(hs:Vx a b=true)(hv:Qf v=true):∀{ns:List Int} {ps:List (List Pt)},(∀n∈ns,0<=n/\n.toNat<ps.length)->ns.Nodup->(∀n∈ns,Jy (nth ps n.toNat)/\(nth ps n.toNat).length+2<=200)->
  (∀n∈ns,∀τ,a<=τ->τ<b->Vk v (QL (nth ps n.toNat) τ)=true)->∃qs,QaM a b v ns ps=some qs/\∀k,k<ps.length->((k:Int)∉ns->nth qs k=nth ps k)/\(nth qs k).length<=(nth ps k).length+2
 | [],ps,_,_,_,_=>⟨ps,rfl,fun k _=>⟨fun _=>rfl,by omega⟩⟩
 | n::ns,ps,hn,hd,hp,hf=>by
  have h1:=hn n Xac
  have h2:=hp n Xac
  rw[XaW]at hd
  obtain⟨q,hq,hql⟩:=Qf8 h2.1 hs hv h2.2 (hf n Xac)
  have hne:∀m∈ns,nth (ps.set n.toNat q) m.toNat=nth ps m.toNat:=fun m hm=>by
   rw[Qcx h1.2,if_neg]
   intro e
   have h3:=hn m (Xae _ hm)
   have:n=m:=by omega
   exact hd.1 (this▸hm)
  obtain⟨qs,h4,h5⟩:=QfJ hs hv (ns:=ns) (ps:=ps.set n.toNat q) (fun m hm=>by rw[XaM];exact hn m (Xae _ hm)) hd.2
   (fun m hm=>by rw[hne m hm];exact hp m (Xae _ hm)) (fun m hm=>by rw[hne m hm];exact hf m (Xae _ hm))
  rw[XaM]at h5
  refine⟨qs,?_,fun k hk=>?_⟩
  ·unfold QaM
   rw[hq]
   exact h4
  ·obtain⟨h6,h7⟩:=h5 k hk
   rw[Qcx h1.2]at h6 h7
   by_cases hkn:n.toNat=k
   ·rw[if_pos hkn]at h6 h7
    have hkn':(k:Int)=n:=by omega
    refine⟨fun h=>absurd (hkn'▸Xac) h,?_⟩
    rw[h6 (by rw[hkn'];exact hd.1),<-hkn]
    exact hql
   ·rw[if_neg hkn]at h6 h7
    exact⟨fun h=>h6 fun h'=>h (Xae _ h'),h7⟩
theorem Qap{t:QT}{j:Job}{l:List Int}(h:Qc9 t j l):l.Nodup:=by
 unfold List.Nodup
 rw[Xbc]
 intro i k hi b d e
 have a:=h.diff k b
 have c:hasI (l.take k) (nth l k)=true:=by
  rw[Qbi]
  refine⟨i,by rw[Xah];omega,?_⟩
  rw[Jb (by rw[Xah];omega),Jb b,List.getElem_take]
  exact e
 rw[c]at a
 cases a
theorem Qae{t:QT}{j:Job}{l:List Int}(h:Qc9 t j l):∀n∈l,0<=n/\n.toNat<t.nodes.length:=fun n hn=>by
 obtain⟨i,a,e⟩:=Jo hn
 have:=h.nodes i a
 rw[e]at this
 omega
theorem Qhp{r r':Jm}{j:Job}{a b:Int}{l:List Int}(h:resO r j a b l=some r'):(∀k,k<r.profs.length->∀τ,0<=τ->QL (nth r.profs k) τ=if(a<=τ/\τ<b)/\(k:Int)∈l then addV (QL (nth r'.profs k) τ) j.need else QL (nth r'.profs k) τ)/\
  ∀τ,0<=τ->QL r.lics τ=if a<=τ/\τ<b then addV (QL r'.lics τ) j.lic else QL r'.lics τ:=by
 unfold resO at h
 split at h
 ·rename_i f
  simp only[Xab]at f
  obtain⟨⟨d,h2⟩,c⟩:=f
  have d:=pB_t.1 d
  have c:=pB_t.1 c
  split at h
  ·cases h
  ·rename_i ps e
   split at h
   ·cases h
   ·rename_i q i
    injection h with h
    subst h
    obtain⟨g1,g⟩:=QeF (fun n hn=>by rw[d.num];exact Qae c n hn) (Qap c) e
    exact⟨g,Qjn i⟩
 ·cases h
def Qqq(m:Nat)(r:Jm):Prop:=(∀k,k<r.profs.length->(nth r.profs k).length+m<=200)/\r.lics.length+m<=200
theorem QpL{r:Jm}{j:Job}{a b:Int}{l:List Int}{m:Nat}(hr:Q4 r)(hj:Qk j=true)(hd:Qc9 r.topo j l)(hs:Vx a b=true)(hm:Qqq (m+2) r)
  (h1:∀k,k<r.profs.length->(k:Int)∈l->∀τ,a<=τ->τ<b->leV j.need (QL (nth r.profs k) τ)) (h2:∀τ,a<=τ->τ<b->leV j.lic (QL r.lics τ)):∃r',resO r j a b l=some r'/\Qqq m r':=by
 obtain⟨f,g⟩:=Z0 hj
 obtain⟨p,e,h⟩:=QfJ hs f (ns:=l) (ps:=r.profs) (fun n hn=>by rw[hr.num];exact Qae hd n hn) (Qap hd) (fun n hn=>by
  have:=(Qae hd n hn).2
  rw[<-hr.num]at this
  exact⟨hr.profs _ this,by have:=hm.1 _ this;omega⟩) (fun n hn τ ha hb=>by
  obtain⟨o,c⟩:=Qae hd n hn
  rw[<-hr.num]at c
  have:=h1 n.toNat c (by rw[Xa3 o];exact hn) τ ha hb
  exact Xn.2 ⟨f,Y3 (hr.profs _ c) τ,this.1,this.2.1,this.2.2⟩)
 obtain⟨q,i,g4⟩:=Qf8 hr.lics hs g (by have:=hm.2;omega) (fun τ ha hb=>by
  have:=h2 τ ha hb
  exact Xn.2 ⟨g,Y3 hr.lics τ,this.1,this.2.1,this.2.2⟩)
 have d:=(QeF (fun n hn=>by rw[hr.num];exact Qae hd n hn) (Qap hd) e).1
 refine⟨⟨r.topo,r.up,p,q⟩,?_,fun k hk=>?_,?_⟩
 ·unfold resO
  rw[if_pos (by rw[show Qj9 r=true from pB_t.2 hr,hj,show Xc r.topo j l=true from pB_t.2 hd];rfl),e]
  dsimp only
  rw[i]
 ·dsimp only at hk ⊢
  rw[d]at hk
  have:=(h k hk).2
  have:=hm.1 k hk
  omega
 ·have:=hm.2
  dsimp only
  omega
theorem Qgn{now:Int}(hnow:0<=now):∀{xs:List Run} {r r':Jm},Q4 r->Wt now xs r=some r'->(∀k,k<r.profs.length->∀τ,0<=τ->QL (nth r.profs k) τ=addV (QL (nth r'.profs k) τ) (demN now xs k τ))/\
  ∀τ,0<=τ->QL r.lics τ=addV (QL r'.lics τ) (demL now xs τ)
 | [],r,r',_,e=>by
  injection e with e;subst e
  exact⟨fun k _ τ _=>Xs (by simp[addV,demN,sumV,zV]) (by simp[addV,demN,sumV,zV]) (by simp[addV,demN,sumV,zV]),fun τ _=>Xs (by simp[addV,demL,sumV,zV]) (by simp[addV,demL,sumV,zV]) (by simp[addV,demL,sumV,zV])⟩
 | x::xs,r,r',h,e=>by
  unfold Wt at e
  split at e
  ·split at e
   ·cases e
   ·rename_i r1 h1
    obtain⟨g1,g2⟩:=Qhp h1
    have k1:=(XM h1).1
    have kt:=(XM h1).2.1
    obtain⟨g3,g4⟩:=Qgn hnow k1 e
    have hl:r1.profs.length=r.profs.length:=by rw[k1.num,h.num,kt]
    rw[hl]at g3
    refine⟨fun k hk τ h0=>?_,fun τ h0=>?_⟩
    ·have a1:=g1 k hk τ h0
     have a2:=g3 k hk τ h0
     rw[QaY]
     by_cases hc:(winB now τ x&&hasI x.nodes (k:Int))=true
     ·rw[if_pos hc]
      simp only[winB,Xab,decide_eq_true_eq,Vb]at hc
      rw[if_pos ⟨hc.1,hc.2⟩]at a1
      rw[a1,a2]
      exact Xs (by simp only[addV];omega) (by simp only[addV];omega) (by simp only[addV];omega)
     ·rw[if_neg hc]
      simp only[winB,Xab,decide_eq_true_eq,Vb]at hc
      rw[if_neg hc]at a1
      rw[a1,a2]
    ·have a1:=g2 τ h0
     have a2:=g4 τ h0
     rw[Qbt]
     by_cases hc:winB now τ x=true
     ·rw[if_pos hc]
      simp only[winB,Xab,decide_eq_true_eq]at hc
      rw[if_pos hc]at a1
      rw[a1,a2]
      exact Xs (by simp only[addV];omega) (by simp only[addV];omega) (by simp only[addV];omega)
     ·rw[if_neg hc]
      simp only[winB,Xab,decide_eq_true_eq]at hc
      rw[if_neg hc]at a1
      rw[a1,a2]
  ·cases e
theorem Qt1{now:Int}{xs:List Run}(hx:∀x∈xs,Qk x.job=true)(k:Nat)(τ:Int):leV zV (demN now xs k τ):=Qaq fun v hv=>by
 obtain⟨x,a,rfl⟩:=Xaf.1 hv
 exact J7 (Z0 (hx x (Xay.1 a).1)).1
theorem Qsx{now:Int}{xs:List Run}(hx:∀x∈xs,Qk x.job=true)(τ:Int):leV zV (demL now xs τ):=Qaq fun v hv=>by
 obtain⟨x,a,rfl⟩:=Xaf.1 hv
 exact J7 (Z0 (hx x (Xay.1 a).1)).2
theorem ZA{now:Int}{x:Run}:runB now x=true↔Qk x.job=true/\(0<=x.at'/\x.at'<=now)/\now+1<=x.at'+x.job.wall/\x.at'+x.job.wall<=1000000000:=by
 simp only[runB,Xab,JA,and_assoc]
theorem Qef{now:Int}(hnow:0<=now):∀{xs:List Run} {r:Jm},Q4 r->Qqq (2*xs.length) r->(∀x∈xs,runB now x=true/\Qc9 r.topo x.job x.nodes)->
  (∀k,k<r.profs.length->∀τ,0<=τ->leV (demN now xs k τ) (QL (nth r.profs k) τ))->(∀τ,0<=τ->leV (demL now xs τ) (QL r.lics τ))->(Wt now xs r).isSome=true
 | [],r,_,_,_,_,_=>rfl
 | x::xs,r,hr,hm,hx,h1,h2=>by
  obtain⟨hb,hd⟩:=hx x Xac
  obtain⟨b1,b2,b3,b4⟩:=ZA.1 hb
  have hpos:∀y∈xs,Qk y.job=true:=fun y hy=>(ZA.1 (hx y (Xae _ hy)).1).1
  have hs:Vx now (x.at'+x.job.wall)=true:=W4.2 ⟨⟨hnow,by omega⟩,⟨by omega,b4⟩,by omega⟩
  obtain⟨r1,g1,g2⟩:=QpL (m:=2*xs.length) hr b1 hd hs (by rw[Xao]at hm;exact hm) (fun k hk hkl τ ha hb'=>by
   have:=h1 k hk τ (by omega)
   rw[QaY,if_pos (by simp only[winB,Xab,decide_eq_true_eq,Vb];exact⟨⟨ha,hb'⟩,hkl⟩)]at this
   have hp:=Qt1 (now:=now) hpos k τ
   simp only[leV,addV,zV]at *
   omega) (fun τ ha hb'=>by
   have:=h2 τ (by omega)
   rw[Qbt,if_pos (by simp only[winB,Xab,decide_eq_true_eq];exact⟨ha,hb'⟩)]at this
   have hp:=Qsx (now:=now) hpos τ
   simp only[leV,addV,zV]at *
   omega)
  obtain⟨v1,v2⟩:=Qhp g1
  obtain⟨k1,k2,_⟩:=XM g1
  have hl:r1.profs.length=r.profs.length:=by rw[k1.num,hr.num,k2]
  unfold Wt
  rw[if_pos hb,g1]
  dsimp only
  refine Qef hnow k1 g2 (fun y hy=>by rw[k2];exact hx y (Xae _ hy)) (fun k hk τ h0=>?_) (fun τ h0=>?_)
  ·rw[hl]at hk
   have a1:=h1 k hk τ h0
   have a2:=v1 k hk τ h0
   rw[QaY]at a1
   by_cases hc:(winB now τ x&&hasI x.nodes (k:Int))=true
   ·rw[if_pos hc]at a1
    simp only[winB,Xab,decide_eq_true_eq,Vb]at hc
    rw[if_pos hc]at a2
    rw[a2]at a1
    simp only[leV,addV]at *
    omega
   ·rw[if_neg hc]at a1
    simp only[winB,Xab,decide_eq_true_eq,Vb]at hc
    rw[if_neg hc]at a2
    rwa [a2]at a1
  ·have a1:=h2 τ h0
   have a2:=v2 τ h0
   rw[Qbt]at a1
   by_cases hc:winB now τ x=true
   ·rw[if_pos hc]at a1
    simp only[winB,Xab,decide_eq_true_eq]at hc
    rw[if_pos hc]at a2
    rw[a2]at a1
    simp only[leV,addV]at *
    omega
   ·rw[if_neg hc]at a1
    simp only[winB,Xab,decide_eq_true_eq]at hc
    rw[if_neg hc]at a2
    rwa [a2]at a1

theorem Qjy{n x:Int}:∀{g out:List Int},x∈WP n out g->x∈out\/x∈g
 | [],out,h=>.inl h
 | y::g,out,h=>by
  rw[show WP n out (y::g)=WP n (if(out.length:Int)<n then rise y out else out) g from rfl]at h
  rcases Qjy h with h|h
  ·split at h
   ·rcases Qdb.1 h with rfl|h
    ·exact .inr Xac
    ·exact .inl h
   ·exact .inl h
  ·exact .inr (Xae _ h)
theorem QmW{n:Int}:∀{g out:List Int},out.Pairwise (·<=·)->(WP n out g).Pairwise (·<=·)
 | [],_,h=>h
 | y::g,out,h=>by
  rw[show WP n out (y::g)=WP n (if(out.length:Int)<n then rise y out else out) g from rfl]
  refine QmW ?_
  split
  ·exact QkJ _ _ h
  ·exact h
theorem QoP{t:QT}{m:List Int}{n x:Int}:∀{f:Nat} {out tk:List Int},x∈chR t m n f out tk->x∈out\/x∈m
 | 0,out,tk,h=>.inl h
 | f+1,out,tk,h=>by
  unfold chR at h
  split at h
  ·rcases QoP h with h|h
   ·exact(Qjy h).imp id (QbO x)
   ·exact .inr h
  ·exact .inl h
theorem QuS{t:QT}{m:List Int}{n:Int}:∀{f:Nat} {out tk:List Int},out.Pairwise (·<=·)->(chR t m n f out tk).Pairwise (·<=·)
 | 0,out,tk,h=>h
 | f+1,out,tk,h=>by
  unfold chR
  split
  ·exact QuS (QmW h)
  ·exact h
theorem Qu5{t:QT}{l:List Int}{n most:Int}:∀(i:Nat),0<=swU t l n most i->lvl t.parents (swU t l n most i).toNat<=most
 | 0=>fun h=>by simp[swU]at h
 | i+1=>by
  have ih:=Qu5 (t:=t) (l:=l) (n:=n) (most:=most) i
  rw[QoU]
  unfold swS
  split
  ·rename_i h
   intro _
   exact h.2.1
  ·exact ih
theorem Qrw{t:QT}{l:List Int}{s:Nat}(ht:QW t)(hl:Jp t l)(hs:allU t l s=true):∀(i:Nat),s<i->lvl t.parents (lowU t l i).toNat<=lvl t.parents s
 | 0,h=>absurd h (Xar _)
 | i+1,h=>by
  rw[QiK]
  by_cases e:s=i
  ·subst e
   split
   ·exact Xbe _
   ·rename_i hc
    by_cases hneg:lowU t l s<0
    ·exact absurd ⟨hs,.inl hneg⟩ hc
    ·by_cases hle:lvl t.parents s<=lvl t.parents (lowU t l s).toNat
     ·exact absurd ⟨hs,.inr hle⟩ hc
     ·omega
  ·have ih:=Qrw ht hl hs i (by omega)
   have hge:=Qki ht hl i (by omega)
   split
   ·rename_i hc
    rw[show((i:Nat):Int).toNat=i from Xb2 i]
    rcases hc.2 with h1|h1
    ·omega
    ·omega
   ·exact ih
theorem Qyx{l:List Int}(h:l.Pairwise (·<=·))(hd:l.Nodup):ascP l:=fun j hj=>by
 have a:=Xbc.1 h j (j+1) (by omega) hj (by omega)
 have b:=Xbc.1 hd j (j+1) (by omega) hj (by omega)
 rw[Jb (by omega),Jb hj]
 exact Int.lt_iff_le_and_ne.2 ⟨a,b⟩
theorem Qqe{t:QT}{l c:List Int}{n most:Int}(ht:QW t)(hl:Jp t l)(h:WW t l n most=some c)(hd:c.Nodup):(∀x∈c,x∈l)/\ascP c/\lvl t.parents (lowI t c).toNat<=most:=by
 unfold WW at h
 split at h
 ·cases h
 ·rename_i g
  injection h with h
  have e:=Qgi (t:=t) (l:=l) (n:=n) (most:=most) t.parents.length
  have b:=Qu5 (t:=t) (l:=l) (n:=n) (most:=most) t.parents.length
  rw[show swU t l n most t.parents.length=swI t l n most from rfl]at e b
  have f:∀x∈c,x∈Jv t l (swI t l n most):=fun x a=>by
   rw[<-h]at a
   rcases QoP a with a|a
   ·cases a
   ·exact a
  have d:Jp t c:=WS.2 fun x a=>WS.1 hl x (QbO x (f x a))
  refine⟨fun x a=>QbO x (f x a),Qyx (by rw[<-h];exact QuS List.Pairwise.nil) hd,Int.le_trans (Qrw (s:=(swI t l n most).toNat) ht d ?_ t.parents.length (by omega)) (b (by omega))⟩
  unfold allU
  rw[Xaw]
  intro x a
  have:=(Xay.1 (f x a)).2
  unfold QfO at this
  rw[Xa3 (by omega)]
  exact this
theorem QmR{r:Jm}{need:V3}{a b x:Int}(h:x∈Qbq r need a b):0<=x/\x.toNat<r.profs.length/\nth r.up x.toNat=true:=by
 unfold Qbq elU at h
 obtain⟨i,e,rfl⟩:=Xaf.1 h
 obtain⟨d,c⟩:=Xay.1 e
 unfold elB at c
 rw[Xab]at c
 rw[XbE]at d
 refine⟨Int.natCast_nonneg i,?_,?_⟩
 ·rw[show((i:Nat):Int).toNat=i from Xb2 i];exact d
 ·rw[show((i:Nat):Int).toNat=i from Xb2 i];exact c.1
theorem Qiu{r:Jm}{j:Job}:∀{ts:List Int} {x:Int×List Int},Qaw r j ts=some x->canO r j x.1=some x.2/\x.1∈ts
 | [],x,h=>by cases h
 | t::ts,x,h=>by
  unfold Qaw at h
  split at h
  ·rename_i l hl
   injection h with h
   subst h
   exact⟨hl,Xac⟩
  ·obtain⟨h1,h2⟩:=Qiu h
   exact⟨h1,Xae _ h2⟩
structure PutP (t:QT) (up:List Bool) (j:Job) (at':Int) (l:List Int):Prop where
 up:∀i,i<l.length->nth up (nth l i).toNat=true
 asc:ascP l
 level:lvl t.parents (lowI t l).toNat<=j.level
 diff:Qc9 t j l
 ok:Qk j=true
 wall:at'+j.wall<=1000000000
theorem Qxr{r r':Jm}{j:Job}{a b c:Int}{x:Int×List Int}(hr:Q4 r)(h:earO r j a=some x)(h2:resO r j b c x.2=some r'):PutP r.topo r.up j x.1 x.2:=by
 obtain⟨d,_⟩:=Qiu h
 obtain⟨_,_,_,f,m⟩:=XM h2
 unfold canO at d
 split at d
 ·rename_i l
  have e:Jp r.topo (Qbq r j.need x.1 (x.1+j.wall)):=WS.2 fun y hy=>by
   obtain⟨g1,g,_⟩:=QmR hy
   rw[hr.num]at g
   omega
  obtain⟨n,o,p⟩:=Qqe hr.topo e d (Qap f)
  exact⟨fun i hi=>(QmR (n _ (QC hi))).2.2,o,p,f,m,l.1⟩
 ·cases d
def newR(now:Int)(qs:List Job)(hs:List JD):List Run:=hs.map fun h=>⟨(VD qs h.id).getD default,now,h.nodes⟩
structure PlanV (r:Jm) (now:Int) (qs:List Job) (q:Jm×List JD×List JD):Prop where
 node:∀k,k<r.profs.length->∀τ,0<=τ->leV (addV (QL (nth q.1.profs k) τ) (demN now (newR now qs q.2.1) k τ)) (QL (nth r.profs k) τ)
 lic:∀τ,0<=τ->leV (addV (QL q.1.lics τ) (demL now (newR now qs q.2.1) τ)) (QL r.lics τ)
 put:∀h∈q.2.1,∃j,VD qs h.id=some j/\PutP r.topo r.up j now h.nodes
theorem QjD(now:Int)(qs:List Job)(hs:List JD)(h:JD):newR now qs (hs++[h])=newR now qs hs++[⟨(VD qs h.id).getD default,now,h.nodes⟩]:=by simp[newR]
theorem XD(v:V3):addV v zV=v:=Xs (by simp[addV,zV]) (by simp[addV,zV]) (by simp[addV,zV])
theorem QtN(now:Int)(x:Run)(k:Nat)(τ:Int):demN now [x] k τ=if(winB now τ x&&hasI x.nodes (k:Int))=true then x.job.need else zV:=by
 rw[QaY]
 split
 ·exact XD _
 ·rfl
theorem Qt5(now:Int)(x:Run)(τ:Int):demL now [x] τ=if winB now τ x=true then x.job.lic else zV:=by
 rw[Qbt]
 split
 ·exact XD _
 ·rfl
theorem Qoi{r:Jm}{now depth:Int}{qs:List Job}{q:Jm×List JD×List JD}{js:List Job}{j:Job}(hr:Q4 r)(hI:Qol r now js q)(h:PlanV r now qs q)(hj:VD qs j.id=some j):PlanV r now qs (Qi5 now depth q j):=by
 unfold Qi5
 split
 ·exact h
 ·rename_i x o
  split
  ·exact h
  ·split
   ·exact h
   ·rename_i r' f
    obtain⟨g,i⟩:=Qhp f
    obtain⟨k1,k2,k3,k4,p⟩:=XM f
    have e:=Qxr hI.room o f
    rw[hI.topo.1,hI.topo.2]at e
    obtain⟨l,m⟩:=Z0 p
    have l:=J7 l
    have m:=J7 m
    have n:q.1.profs.length=r.profs.length:=by rw[hI.room.num,hr.num,hI.topo.1]
    rw[n]at g
    split
    ·rename_i d
     refine⟨fun k hk τ h0=>?_,fun τ h0=>?_,fun y hy=>?_⟩
     ·have b:=h.node k hk τ h0
      have a:=g k hk τ h0
      dsimp only
      rw[QjD,Qme,QtN]
      simp only[hj,XaI]
      by_cases c:(winB now τ ⟨j,now,x.2⟩&&hasI x.2 (k:Int))=true
      ·rw[if_pos c]
       simp only[winB,Xab,decide_eq_true_eq,Vb]at c
       rw[d,if_pos c]at a
       rw[a]at b
       simp only[leV,addV]at *
       omega
      ·rw[if_neg c]
       simp only[winB,Xab,decide_eq_true_eq,Vb]at c
       rw[d,if_neg c]at a
       rw[a]at b
       simp only[leV,addV,zV]at *
       omega
     ·have b:=h.lic τ h0
      have a:=i τ h0
      dsimp only
      rw[QjD,Qma,Qt5]
      simp only[hj,XaI]
      by_cases c:winB now τ ⟨j,now,x.2⟩=true
      ·rw[if_pos c]
       simp only[winB,Xab,decide_eq_true_eq]at c
       rw[d,if_pos c]at a
       rw[a]at b
       simp only[leV,addV]at *
       omega
      ·rw[if_neg c]
       simp only[winB,Xab,decide_eq_true_eq]at c
       rw[d,if_neg c]at a
       rw[a]at b
       simp only[leV,addV,zV]at *
       omega
     ·rcases Xag.1 hy with hy|hy
      ·exact h.put y hy
      ·obtain rfl:=XaH.1 hy
       rw[d]at e
       exact⟨j,hj,e⟩
    ·refine⟨fun k hk τ h0=>?_,fun τ h0=>?_,h.put⟩
     ·have b:=h.node k hk τ h0
      have a:=g k hk τ h0
      dsimp only
      split at a
      ·rw[a]at b
       simp only[leV,addV,zV]at *
       omega
      ·rw[a]at b
       exact b
     ·have b:=h.lic τ h0
      have a:=i τ h0
      dsimp only
      split at a
      ·rw[a]at b
       simp only[leV,addV,zV]at *
       omega
      ·rw[a]at b
       exact b
theorem Qyl{r:Jm}{now depth:Int}{qs l:List Job}(h:Q4 r)(hf:∀j∈l,VD qs j.id=some j):∀(i:Nat),i<=l.length->PlanV r now qs (Vj r now depth (l.take i))
 | 0,_=>⟨fun k _ τ _=>by
   show leV (addV _ zV) _
   rw[XD];exact Qdm _,fun τ _=>by
   show leV (addV _ zV) _
   rw[XD];exact Qdm _,fun y hy=>by cases hy⟩
 | i+1,hi=>by
  rw[Qab (by omega)]
  exact Qoi h (Qp7 h i (by omega)) (Qyl h hf i (by omega)) (hf _ (QC (by omega)))

structure Qxl (t:QT) (lic:V3) (now:Int) (xs:List Run):Prop where
 ok:∀x∈xs,runB now x=true/\Qc9 t x.job x.nodes
 node:∀k,k<t.nodes.length->∀τ,0<=τ->leV (demN now xs k τ) (nth t.nodes k).cap
 lic:∀τ,0<=τ->leV (demL now xs τ) lic
theorem Qdg(v:V3){τ:Int}(h:0<=τ):QL [⟨0,v⟩] τ=v:=by simp[QL,h]
theorem Qcs{t:QT}{up:List Bool}{lic:V3}{k:Nat}(hk:k<t.nodes.length):nth (Jd t up lic).profs k=[⟨0,(nth t.nodes k).cap⟩]:=by
 simp[Jd,nth,List.getD,hk]
theorem QlI{s:Qb}{r:Jm}(h:Jg s=some r):(∀k,k<s.topo.nodes.length->∀τ,0<=τ->(nth s.topo.nodes k).cap=addV (QL (nth r.profs k) τ) (demN s.now s.runs k τ))/\∀τ,0<=τ->s.lic=addV (QL r.lics τ) (demL s.now s.runs τ):=by
 unfold Jg at h
 split at h
 ·rename_i hb
  have hb:=pB_t.1 hb
  obtain⟨a,b⟩:=Qgn hb.now.1 (W3 hb.topo hb.up hb.lic) h
  refine⟨fun k hk τ h0=>?_,fun τ h0=>?_⟩
  ·rw[<-a k (by simpa [Jd] using hk) τ h0,Qcs hk,Qdg _ h0]
  ·rw[<-b τ h0]
   exact(Qdg _ h0).symm
 ·cases h
theorem Qqj{s:Qb}{r:Jm}(h:Jg s=some r):Qxl s.topo s.lic s.now s.runs:=by
 obtain⟨a,b,_,hb,d⟩:=Yo h
 obtain⟨e,f⟩:=QlI h
 refine⟨d,fun k hk τ h0=>?_,fun τ h0=>?_⟩
 ·have c:=J7 (Y3 (a.profs k (by rw[a.num,b];exact hk)) τ)
  rw[e k hk τ h0]
  simp only[leV,addV,zV]at *
  omega
 ·have c:=J7 (Y3 a.lics τ)
  rw[f τ h0]
  simp only[leV,addV,zV]at *
  omega
theorem Qov{s:Qb}(hb:Qda s)(hl:s.runs.length<=60)(hf:Qxl s.topo s.lic s.now s.runs):(Jg s).isSome=true:=by
 unfold Jg
 rw[if_pos (pB_t.2 hb)]
 refine Qef hb.now.1 (W3 hb.topo hb.up hb.lic) ⟨fun k hk=>?_,?_⟩ hf.ok (fun k hk τ h0=>?_) (fun τ h0=>?_)
 ·have a:k<s.topo.nodes.length:=by simpa [Jd] using hk
  rw[Qcs a,Xap]
  omega
 ·show[_].length+_<=200
  rw[Xap]
  omega
 ·have a:k<s.topo.nodes.length:=by simpa [Jd] using hk
  rw[Qcs a,Qdg _ h0]
  exact hf.node k a τ h0
 ·show leV _ (QL [⟨0,s.lic⟩] τ)
  rw[Qdg _ h0]
  exact hf.lic τ h0
theorem Qw3{t:QT}{lic:V3}{now now':Int}{xs ys:List Run}(h:Qxl t lic now xs)(hs:ys.Sublist xs)(hn:now<=now')(hr:∀y∈ys,now'+1<=y.at'+y.job.wall):Qxl t lic now' ys:=by
 have a:∀x∈xs,Qk x.job=true:=fun x hx=>(ZA.1 (h.ok x hx).1).1
 refine⟨fun y hy=>?_,fun k hk τ h0=>Qiq (QsT hs hn a k τ) (h.node k hk τ h0),fun τ h0=>Qiq (Qtc hs hn a τ) (h.lic τ h0)⟩
 obtain⟨d,e⟩:=h.ok y (hs.subset hy)
 obtain⟨b,b2,b3,c⟩:=ZA.1 d
 exact⟨ZA.2 ⟨b,by omega,hr y hy,c⟩,e⟩
theorem Qja{a b:Int}(h:a≠b):∀(l:List Job),VD (outJ l a) b=VD l b
 | []=>rfl
 | x::l=>by
  have ih:=Qja h l
  unfold VD outJ at *
  rw[Xa6]
  by_cases hx:x.id=a
  ·rw[if_neg (by simp[hx]),ih,List.find?_cons_of_neg (by simp[hx,h])]
  ·rw[if_pos (by simp[hx])]
   by_cases hb:x.id=b
   ·rw[List.find?_cons_of_pos (by simp[hb]),List.find?_cons_of_pos (by simp[hb])]
   ·rw[List.find?_cons_of_neg (by simp[hb]),List.find?_cons_of_neg (by simp[hb]),ih]
theorem QmN{now:Int}:∀{hs:List JD} {qs:List Job} {rs:List Run},(hs.map JD.id).Nodup->(runF now qs rs hs).2=rs++newR now qs hs
 | [],qs,rs,_=>by simp[runF,newR]
 | h::hs,qs,rs,hn=>by
  rw[Xat,XaW]at hn
  rw[show runF now qs rs (h::hs)=runF now (outJ qs h.id) (rs++[⟨(VD qs h.id).getD default,now,h.nodes⟩]) hs from rfl,QmN hn.2]
  rw[Xaq]
  congr 1
  unfold newR
  rw[Xat,XbG]
  congr 1
  refine List.map_congr_left fun x hx=>?_
  rw[Qja]
  intro e
  exact hn.1 (Xaf.2 ⟨x,hx,e.symm⟩)
theorem Qn8{l:List Job}(h:Je l){j:Job}(hj:j∈l):VD l j.id=some j:=by
 obtain⟨x,d⟩:=Qi3 (List.mem_map_of_mem (f:=Job.id) hj)
 obtain⟨e,c⟩:=Qgb d
 rw[d]
 obtain⟨a,g,rfl⟩:=Jo e
 obtain⟨b,hb,rfl⟩:=Jo hj
 rcases Nat.lt_trichotomy a b with hab|hab|hab
 ·exact absurd c (h.diff b hb a hab)
 ·rw[hab]
 ·exact absurd c.symm (h.diff a g b hab)
theorem QnW{s:Qb}{r:Jm}(hr:Jg s=some r)(hq:Je s.queue):(Jr s).runs=s.runs++newR s.now s.queue (Ww s).1:=by
 refine QmN ?_
 have a:=Qk7 hr
 rw[WR hr]
 exact a.sub.nodup (((Xbx s.queue _).map Job.id).nodup_iff.2 hq.nodup)
theorem QqD{s:Qb}{r:Jm}(h:Jg s=some r):Qda s:=(Yo h).2.2.2.1
theorem Qmy{s:Qb}(h:Qe s=true):Qe (Jr s)=true:=by
 have f:=pB_t.1 h
 obtain⟨r,m⟩:=XaO.1 f.room
 obtain⟨h1,w,h3,hb,hx⟩:=Yo m
 obtain⟨v1,v2⟩:=QlI m
 have hf:=Qqj m
 have z:Je s.queue:=f.jobs.left
 have g:=QeN (s:=s) z
 have hQ:Je (allJ (Jr s)):=f.jobs.perm g
 have a:=QnW m z
 have o:=Qyl (qs:=s.queue) (now:=s.now) (depth:=s.depth) (l:=ordJ s.queue) h1 (fun j t=>Qn8 z (Qg6.1 t)) _ (Xaj _)
 have n:=Qk7 m
 rw[Xak]at o
 rw[WR m]at a
 generalize Vj r s.now s.depth (ordJ s.queue)=q at o n a
 have d:∀y∈newR s.now s.queue q.2.1,y.at'=s.now/\PutP s.topo s.up y.job s.now y.nodes:=fun y hy=>by
  obtain⟨hd,c,rfl⟩:=Xaf.1 hy
  obtain⟨j,t,b⟩:=o.put hd c
  rw[w,h3]at b
  simp only[t,XaI]
  exact⟨trivial,b⟩
 have u:(Jr s).runs.length<=60:=by
  have:=hQ.len
  unfold allJ at this
  rw[Xaa,XaB]at this
  omega
 have p:Qxl s.topo s.lic s.now (Jr s).runs:=by
  rw[a]
  refine⟨fun y hy=>?_,fun k hk τ h0=>?_,fun τ h0=>?_⟩
  ·rcases Xag.1 hy with hy|hy
   ·exact hf.ok y hy
   ·obtain⟨e,b⟩:=d y hy
    have hw:=(YB b.ok).2
    refine⟨ZA.2 ⟨b.ok,?_,?_,?_⟩,b.diff⟩
    ·have:=hb.now;omega
    ·omega
    ·have:=b.wall;omega
  ·have x:k<r.profs.length:=by rw[h1.num,w];exact hk
   have a1:=o.node k x τ h0
   have v:=v1 k hk τ h0
   have b:=J7 (Y3 (n.room.profs k (by rw[n.room.num,n.topo.1,w];exact hk)) τ)
   rw[Qme,v]
   simp only[leV,addV,zV]at *
   omega
  ·have a1:=o.lic τ h0
   have v:=v2 τ h0
   have b:=J7 (Y3 n.room.lics τ)
   rw[Qma,v]
   simp only[leV,addV,zV]at *
   omega
 refine pB_t.2 ⟨Qov (s:=Jr s) ⟨hb.topo,hb.up,hb.lic,hb.now⟩ u p,f.depth,hQ,f.ends,fun j t=>?_,f.endsOk⟩
 have c:=QC t
 rw[a]at c
 rcases Xag.1 c with c|c
 ·obtain⟨i,hi,e⟩:=Jo c
  rw[a,<-e]
  have:=f.runs i hi
  exact⟨this.up,this.asc,this.level⟩
 ·obtain⟨_,b⟩:=d _ c
  rw[a]
  exact⟨b.up,b.asc,b.level⟩

theorem QmL{now now':Int}{e:QjS}(h:now<=now')(he:endB now e=true):endB now' e=true:=by
 simp only[endB,Xab,JA]at *
 omega
theorem QrN{now id why:Int}(h1:1<=id/\id<=999)(h2:0<=now)(h3:1<=why/\why<=4):endB now ⟨id,now,why⟩=true:=by
 simp only[endB,Xab,JA]
 omega
theorem Qlp{j:Job}(h:Qk j=true):1<=j.id/\j.id<=999:=by
 simp only[Qk,Xab,JA]at h
 omega
theorem Qhv{now why:Int}{p:Run->Bool}{l:List Run}(hj:∀x∈l,Qk x.job=true)(h2:0<=now)(h3:1<=why/\why<=4):∀e∈QN now why p l,endB now e=true:=fun e he=>by
 obtain⟨x,a,rfl⟩:=Xaf.1 he
 exact QrN (Qlp (hj x (Xay.1 a).1)) h2 h3
theorem WX{s s1:Qb}(h:Qe s=true)(ht:s1.topo=s.topo)(hu:s1.up.length=s.up.length)(hl:s1.lic=s.lic)(hd:s1.depth=s.depth)(hn:s.now<=s1.now/\s1.now<=1000000000)(hs:s1.runs.Sublist s.runs)
  (hw:∀x∈s1.runs,s1.now+1<=x.at'+x.job.wall) (hup:∀x∈s1.runs,∀i,i<x.nodes.length->nth s1.up (nth x.nodes i).toNat=true) (hq:Je (allJ s1)) (he:s1.ends.length<=300) (heo:∀e∈s1.ends,endB s1.now e=true):Qe s1=true:=by
 have c:=pB_t.1 h
 obtain⟨r,f⟩:=XaO.1 c.room
 obtain⟨h1,h2,h3,hb,hx⟩:=Yo f
 have b:s1.runs.length<=60:=by
  have:=hq.len
  unfold allJ at this
  rw[Xaa,XaB]at this
  omega
 refine pB_t.2 ⟨Qov ⟨by rw[ht];exact hb.topo,by rw[hu,ht];exact hb.up,by rw[hl];exact hb.lic,⟨Int.le_trans hb.now.1 hn.1,hn.2⟩⟩ b (by rw[ht,hl];exact Qw3 (Qqj f) hs hn.1 hw),by rw[hd];exact c.depth,hq,he,fun j hj=>?_,fun j hj=>heo _ (QC hj)⟩
 have d:=QC hj
 obtain⟨i,g,e⟩:=Jo (hs.subset d)
 have:=c.runs i g
 rw[e]at this
 exact⟨hup _ d,this.asc,by rw[ht];exact this.level⟩
structure VP (s:Qb):Prop where
 now:0<=s.now/\s.now<=1000000000
 jobs:Je (allJ s)
 wall:∀x∈s.runs,s.now+1<=x.at'+x.job.wall
 ok:∀x∈s.runs,Qk x.job=true
 up:∀x∈s.runs,∀i,i<x.nodes.length->nth s.up (nth x.nodes i).toNat=true
 upl:s.up.length=s.topo.nodes.length
 rng:∀x∈s.runs,∀n∈x.nodes,0<=n/\n.toNat<s.up.length
 ends:s.ends.length<=300
 endsOk:∀e∈s.ends,endB s.now e=true
theorem QkR{s:Qb}(h:Qe s=true):VP s:=by
 have a:=pB_t.1 h
 obtain⟨r,d⟩:=XaO.1 a.room
 obtain⟨h1,h2,h3,hb,c⟩:=Yo d
 refine⟨hb.now,a.jobs,fun x hm=>(ZA.1 (c x hm).1).2.2.1,fun x hm=>(ZA.1 (c x hm).1).1,fun x hm=>?_,hb.up,fun x hm n hn=>by rw[hb.up];exact Qae (c x hm).2 n hn,a.ends,fun e he=>?_⟩
 ·obtain⟨i,b,rfl⟩:=Jo hm
  exact(a.runs i b).up
 ·obtain⟨i,b,rfl⟩:=Jo he
  exact a.endsOk i b
theorem QwJ{s:Qb}{j:Job}(h:Qe s=true)(hj:Qk j=true)(hn:¬(allJ s).any (fun x=>x.id==j.id)=true)(hl:¬60<=(allJ s).length):Qe (subm s j)=true:=by
 have a:=QkR h
 have c:(allJ (subm s j)).Perm (j::allJ s):=by
  show((s.queue++[j])++s.runs.map Run.job).Perm (j::(s.queue++s.runs.map Run.job))
  rw[Xaq]
  exact Xcq
 refine WX h rfl rfl rfl rfl ⟨Xbe _,a.now.2⟩ (Xbt _) a.wall a.up ?_ a.ends a.endsOk
 have d:Je (j::allJ s):=QdV (by rw[Xao];omega) (fun x b=>by
  rcases Xai.1 b with rfl|b
  ·exact hj
  ·exact a.jobs.ok x b) (by
  rw[Xat,XaW]
  refine⟨fun hm=>hn ?_,a.jobs.nodup⟩
  obtain⟨x,b,e⟩:=Xaf.1 hm
  rw[XaX]
  exact⟨x,b,by rw[beq_iff_eq];exact e⟩)
 exact d.perm c
theorem Y2{p:Run->Bool}{l:List Run}:(JP p l).Sublist l:=XaE
theorem Qdl{now now':Int}{l m:List QjS}(h:now<=now')(hl:∀e∈l,endB now e=true)(hm:∀e∈m,endB now' e=true):∀e∈l++m,endB now' e=true:=fun e he=>by
 rcases Xag.1 he with he|he
 ·exact QmL h (hl e he)
 ·exact hm e he
theorem Qvj{s:Qb}{id why:Int}(h:Qe s=true)(hw:why=2\/why=3)(hl:(finR s id why).ends.length<=300):Qe (finR s id why)=true:=by
 have a:=QkR h
 refine WX h rfl rfl rfl rfl ⟨Xbe _,a.now.2⟩ Y2 (fun x hx=>a.wall x (Y2.subset hx)) (fun x hx=>a.up x (Y2.subset hx)) (a.jobs.sub ?_) hl (Qdl (Xbe _) a.endsOk (Qhv a.ok a.now.1 (by omega)))
 exact XbV (Xbt _) (Y2.map _)
theorem QwT{s:Qb}{id why:Int}(h:Qe s=true)(hw:why=2\/why=3)(hq:s.queue.any (fun x=>x.id==id)=true)(hl:(finQ s id why).ends.length<=300):Qe (finQ s id why)=true:=by
 have a:=QkR h
 refine WX h rfl rfl rfl rfl ⟨Xbe _,a.now.2⟩ (Xbt _) a.wall a.up (a.jobs.sub ?_) hl (Qdl (Xbe _) a.endsOk fun e he=>?_)
 ·exact XbV XaE (Xbt _)
 ·obtain rfl:=XaH.1 he
  obtain⟨x,b,e⟩:=XaX.1 hq
  rw[beq_iff_eq]at e
  refine QrN ?_ a.now.1 (by omega)
  rw[<-e]
  exact Qlp (a.jobs.ok x (Xau _ b))
theorem QiR{p:Run->Bool}:∀(l:List Run),(YM p l++(JP p l).map Run.job).Perm (l.map Run.job)
 | []=>Xbv _
 | x::l=>by
  have ih:=QiR (p:=p) l
  unfold YM JP at *
  rw[Xa6,Xa6]
  cases hx:p x with
  | true=>
   simp only[Bool.not_true,XaZ,if_false,if_true,Xat,Xa0]
   exact ih.cons _
  | false=>
   simp only[Bool.not_false,XaZ,if_false,if_true,Xat]
   exact Xcq.trans (ih.cons _)
theorem Qmw{l:List Bool}{i j:Nat}{x:Bool}(h:i<l.length):nth (l.set i x) j=if i=j then x else nth l j:=Qcx h
theorem QtK{s:Qb}{n:Int}(h:Qe s=true)(hn:0<=n/\n<s.up.length)(hl:(fail1 s n).ends.length<=300):Qe (fail1 s n)=true:=by
 have a:=QkR h
 refine WX h rfl (by simp[fail1]) rfl rfl ⟨Int.le_refl _,a.now.2⟩ Y2 (fun x hx=>a.wall x (Y2.subset hx)) (fun x hx i hi=>?_) (a.jobs.perm ?_) hl (Qdl (Int.le_refl _) a.endsOk (Qhv a.ok a.now.1 (by omega)))
 ·show nth (s.up.set n.toNat false) _=true
  have c:=(Xay.1 hx).2
  have b:nth x.nodes i∈x.nodes:=QC hi
  have hr:=a.rng x (Y2.subset hx) _ b
  rw[Qmw (by omega),if_neg]
  ·exact a.up x (Y2.subset hx) i hi
  ·intro e
   have d:nth x.nodes i=n:=by omega
   rw[d]at b
   have f:J1 n x=true:=Vb.2 b
   rw[f]at c
   cases c
 ·show((s.queue++YM (J1 n) s.runs)++(JP (J1 n) s.runs).map Run.job).Perm (s.queue++s.runs.map Run.job)
  rw[Xaq]
  exact(QiR s.runs).append_left _
theorem QvU{s:Qb}{n:Int}(h:Qe s=true)(hn:0<=n/\n<s.topo.nodes.length):Qe (resu s n)=true:=by
 have a:=QkR h
 refine WX h rfl (by simp[resu]) rfl rfl ⟨Int.le_refl _,a.now.2⟩ (List.Sublist.refl _) a.wall (fun x hx i hi=>?_) a.jobs a.ends a.endsOk
 show nth (s.up.set n.toNat true) _=true
 rw[Qmw (by rw[a.upl];omega)]
 split
 ·rfl
 ·exact a.up x hx i hi
theorem QvF{s:Qb}{v:V3}(h:Qe s=true)(hr:(Jg (resz s v)).isSome=true):Qe (resz s v)=true:=by
 have a:=pB_t.1 h
 exact pB_t.2 ⟨hr,a.depth,a.jobs,a.ends,fun j hj=>⟨(a.runs j hj).up,(a.runs j hj).asc,(a.runs j hj).level⟩,a.endsOk⟩
theorem QhG:∀{l:List Run} {m:Int},(∀r∈l,0<=r.at'+r.job.wall)->(0<=m->0<=l.foldl V4 m/\l.foldl V4 m<=m)/\∀r∈l,0<=l.foldl V4 m/\l.foldl V4 m<=r.at'+r.job.wall
 | [],m,_=>⟨fun h=>⟨h,Xbe _⟩,fun r hr=>by cases hr⟩
 | x::l,m,h=>by
  have h0:=h x Xac
  obtain⟨h1,h2⟩:=QhG (l:=l) (m:=V4 m x) fun r hr=>h r (Xae _ hr)
  have hx:0<=V4 m x/\V4 m x<=x.at'+x.job.wall/\(0<=m->V4 m x<=m):=by
   unfold V4
   split
   ·exact⟨h0,Xbe _,fun h'=>by omega⟩
   ·omega
  obtain⟨g1,g2⟩:=h1 hx.1
  rw[XaU]
  refine⟨fun hm=>⟨g1,by have:=hx.2.2 hm;omega⟩,fun r hr=>?_⟩
  rcases Xai.1 hr with rfl|hr
  ·exact⟨g1,by omega⟩
  ·exact h2 r hr
theorem Qt0:∀{l:List Run},0<=QH l->∃r∈l,r.at'+r.job.wall=QH l:=by
 have a:∀{l:List Run} {m:Int},0<=l.foldl V4 m->l.foldl V4 m=m\/∃r∈l,r.at'+r.job.wall=l.foldl V4 m:=by
  intro l
  induction l with
  | nil=>exact fun _=>.inl rfl
  | cons x l ih=>
   intro m h
   rw[XaU]at h ⊢
   rcases ih h with e|⟨r,hr,e⟩
   ·by_cases b:m<0\/x.at'+x.job.wall<m
    ·exact .inr ⟨x,Xac,by rw[e];unfold V4;rw[if_pos b]⟩
    ·exact .inl (by rw[e];unfold V4;rw[if_neg b])
   ·exact .inr ⟨r,Xae _ hr,e⟩
 intro l h
 rcases a (l:=l) (m:=-1) h with e|h'
 ·rw[show l.foldl V4 (-1)=QH l from rfl]at e
  omega
 ·exact h'
theorem Qvk{s:Qb}(h:Qe s=true)(hp:0<=QH s.runs)(ht:QH s.runs<=1000000000)(hl:(unt1 s (QH s.runs)).ends.length<=300):Qe (unt1 s (QH s.runs))=true/\s.now<=QH s.runs:=by
 have c:=QkR h
 have a:=(QhG (l:=s.runs) (m:=-1) fun r hr=>by have:=c.wall r hr;have:=c.now;omega).2
 rw[show s.runs.foldl V4 (-1)=QH s.runs from rfl]at a
 have d:=Qt0 (l:=s.runs) hp
 obtain⟨x,g,e⟩:=d
 have b:s.now<=QH s.runs:=by have:=c.wall x g;omega
 refine⟨WX h rfl rfl rfl rfl ⟨b,ht⟩ Y2 (fun y hy=>?_) (fun y hy=>c.up y (Y2.subset hy)) (c.jobs.sub ?_) hl (Qdl b c.endsOk (Qhv c.ok hp (by omega))),b⟩
 ·show QH s.runs+1<=_
  have f:=(Xay.1 hy).2
  have h2:=(a y (Y2.subset hy)).2
  unfold endP at f
  rw[Xba,beq_eq_false_iff_ne]at f
  omega
 ·exact XbV (Xbt _) (Y2.map _)
theorem Qqf:∀(f:Nat) {s s':Qb} {t:Int},Qe s=true->s.now<=t->t<=1000000000->untG f s t=some s'->Qe s'=true/\s'.now=t/\s.ends.length<=s'.ends.length
 | 0,_,_,_,_,_,_,h=>by cases h
 | f+1,s,s',t,hs,hn,ht,h=>by
  have hv:=QkR hs
  unfold untG at h
  split at h
  ·rename_i hc
   injection h with h
   subst h
   have hmin:=(QhG (l:=s.runs) (m:=-1) fun r hr=>by have:=hv.wall r hr;have:=hv.now;omega).2
   rw[show s.runs.foldl V4 (-1)=QH s.runs from rfl]at hmin
   refine⟨WX hs rfl rfl rfl rfl ⟨hn,ht⟩ (Xbt _) (fun x hx=>?_) hv.up hv.jobs hv.ends (fun e he=>QmL hn (hv.endsOk e he)),rfl,Xaj _⟩
   have:=hmin x hx
   show t+1<=_
   omega
  ·rename_i hc
   split at h
   ·cases h
   ·rename_i h6
    obtain⟨g1,g2⟩:=Qvk hs (by omega) (by omega) (by omega)
    obtain⟨k1,k2,k3⟩:=Qqf f (Qmy g1) (show(unt1 s (QH s.runs)).now<=t by show QH s.runs<=t;omega) ht h
    refine⟨k1,k2,Xal ?_ k3⟩
    show s.ends.length<=(s.ends++_).length
    rw[Xaa]
    omega

def OnP(s s':Qb):Prop:=Qe s'=true/\s.now<=s'.now/\s.ends.length<=s'.ends.length
theorem ZD{s s1:Qb}(h:Qe s1=true)(hn:s.now<=s1.now)(he:s.ends.length<=s1.ends.length):OnP s (Jr s1):=⟨Qmy h,hn,he⟩
theorem QnS{s s':Qb}{j:Job}(h:(Yx s j).1=some s'):OnP s s':=by
 unfold Yx at h
 split at h
 ·rename_i a
  split at h
  ·cases h
  ·rename_i b
   split at h
   ·cases h
   ·rename_i c
    split at h
    ·injection h with h
     subst h
     exact ZD (QwJ a.1 a.2 b c) (Xbe _) (Xaj _)
    ·cases h
 ·cases h
theorem Qml{α:Type}{f:α->Int}{id:Int}:∀{l:List α},(l.map f).Nodup->(l.filter fun x=>f x==id).length<=1
 | [],_=>by simp
 | x::l,h=>by
  rw[Xat,XaW]at h
  rw[Xa6]
  split
  ·rename_i hx
   rw[beq_iff_eq]at hx
   rw[XbW.2 (fun y hy=>?_)]
   ·simp
   ·rw[beq_iff_eq]
    intro e
    exact h.1 (Xaf.2 ⟨y,hy,e.trans hx.symm⟩)
  ·exact Qml h.2
theorem Qtp{s:Qb}{id why:Int}(h:Je (allJ s)):(QN s.now why (finP id) s.runs).length<=1:=by
 unfold QN
 rw[XaB]
 have a:=h.nodup
 rw[allJ,XaG,Xbs,XaV]at a
 exact Qml (f:=Job.id∘Run.job) a.2.1
theorem QqX{s s':Qb}{id why:Int}(h:(fnsO s id why).1=some s'):OnP s s':=by
 unfold fnsO at h
 split at h
 ·rename_i a
  have d:=pB_t.1 a.1
  split at h
  ·rename_i b
   split at h
   ·cases h
   ·rename_i c
    injection h with h
    subst h
    have f:=d.jobs
    have e:(finR s id why).ends.length<=300:=by
     show(s.ends++QN s.now why (finP id) s.runs).length<=300
     rw[Xaa]
     have:=Qtp (s:=s) (id:=id) (why:=why) f
     omega
    refine ZD (Qvj a.1 a.2 e) (Xbe _) ?_
    show s.ends.length<=(s.ends++_).length
    rw[Xaa]
    omega
  ·split at h
   ·rename_i b
    split at h
    ·cases h
    ·rename_i c
     injection h with h
     subst h
     refine ZD (QwT a.1 a.2 b.1 ?_) (Xbe _) ?_
     ·show(s.ends++[_]).length<=300
      rw[Xaa,Xap]
      omega
     ·show s.ends.length<=(s.ends++_).length
      rw[Xaa]
      omega
   ·cases h
 ·cases h
theorem QsY{s s':Qb}{n:Int}(h:(Xe s n).1=some s'):OnP s s':=by
 unfold Xe at h
 split at h
 ·rename_i b
  split at h
  ·rename_i a
   split at h
   ·cases h
   ·rename_i h3
    injection h with h
    subst h
    refine ZD (QtK b ⟨a.1,a.2.1⟩ (by show(s.ends++QN s.now 4 (J1 n) s.runs).length<=300;omega)) (Xbe _) ?_
    show s.ends.length<=(s.ends++_).length
    rw[Xaa]
    omega
  ·cases h
 ·cases h
theorem Qna{s s':Qb}{n:Int}(h:(Yz s n).1=some s'):OnP s s':=by
 unfold Yz at h
 split at h
 ·rename_i b
  split at h
  ·rename_i a
   injection h with h
   subst h
   exact ZD (QvU b ⟨a.1,a.2.1⟩) (Xbe _) (Xaj _)
  ·cases h
 ·cases h
theorem Qnv{s s':Qb}{v:V3}(h:(YA s v).1=some s'):OnP s s':=by
 unfold YA at h
 split at h
 ·rename_i a
  split at h
  ·rename_i b
   injection h with h
   subst h
   exact ZD (QvF a.1 b) (Xbe _) (Xaj _)
  ·cases h
 ·cases h
theorem QpV{s s':Qb}{t:Int}(h:untO s t=some s'):OnP s s':=by
 unfold untO at h
 split at h
 ·rename_i a
  obtain⟨b,g2,c⟩:=Qqf _ a.1 a.2.1 a.2.2 h
  exact⟨b,by omega,c⟩
 ·cases h
theorem QiG{s s':Qb}{c:Cmd}(h:(Jw s c).1=some s'):OnP s s':=by
 unfold Jw at h
 repeat' split at h
 ·exact QnS h
 ·exact QqX h
 ·exact QqX h
 ·exact QsY h
 ·exact Qna h
 ·exact Qnv h
 ·exact QpV h
 ·exact QpV h
 ·cases h

theorem Qba{x:Int}:∀b∈QU x,(b.toNat:Int)≠32:=fun b hb=>by
 by_cases h:0<=x/\x<=1000000000
 ·rw[ZS h]at hb
  have:=XA 9 x.toNat (by omega) b hb
  omega
 ·rw[Qbk (by omega)]at hb
  cases hb
theorem Qrr{v:V3}:∀b∈Jj v,(b.toNat:Int)≠32:=fun b hb=>by
 cases h:Qf v with
 | false=>rw[Qau h]at hb;cases hb
 | true=>
  rw[VU h]at hb
  simp only[Xag,XaH]at hb
  rcases hb with (((hb|hb)|hb)|hb)|hb
  ·exact Qba b hb
  ·subst hb;decide
  ·exact Qba b hb
  ·subst hb;decide
  ·exact Qba b hb
theorem Qcn{v:V3}(h:Qf v=true):YV (Jj v)=(v,true):=by
 have g:parts (Jj v) 47=[QU v.a,QU v.b,QU v.c]:=by rw[WM,QiT h]
 obtain⟨d,e,f⟩:=Qop h
 have i:tvV (Jj v)=v:=by
  unfold tvV
  rw[g]
  show V3.mk (QQ (QU v.a)).1 (QQ (QU v.b)).1 (QQ (QU v.c)).1=v
  rw[Q0 d,Q0 e,Q0 f]
 have j:tvOk (Jj v)=true:=by
  unfold tvOk
  rw[i,h,g]
  show(_&&(QQ (QU v.a)).2&&(QQ (QU v.b)).2&&(QQ (QU v.c)).2&&true)=true
  rw[Q0 d,Q0 e,Q0 f]
  rfl
 rw[Z1 j,i]
theorem Qdd{v:V3}(h:Zk v=true):v=vec0:=by
 cases v
 simp[Zk]at h
 simp[vec0,h]
theorem QmS{j:Job}(h:Z5 j=true):j=job0:=by
 obtain⟨a,b,c,d,e,f,g⟩:=j
 simp only[Z5,Xab,beq_iff_eq]at h
 obtain⟨⟨⟨⟨⟨⟨i,k⟩,l⟩,m⟩,n⟩,o⟩,p⟩:=h
 rw[i,k,l,Qdd m,Qdd n,o,p]
 rfl
theorem Qa0{x y:List UInt8}(h:∀b∈x,(b.toNat:Int)≠32):split 32 (x++[32]++y)=x::split 32 y:=by
 rw[Xaq]
 exact Qbb (c:=32) (by decide) h
theorem Qkk{k:Int}:∀b∈cmdW k,(b.toNat:Int)≠32:=by
 by_cases h:1<=k/\k<=7
 ·obtain rfl|rfl|rfl|rfl|rfl|rfl|rfl:k=1\/k=2\/k=3\/k=4\/k=5\/k=6\/k=7:=by omega
  all_goals decide
 ·rw[cmdW,if_neg h]
  exact fun b hb=>by cases hb
theorem Qxb{k:Int}(h:1<=k/\k<=7):((kd (cmdW k) 8:Nat):Int)=k:=by
 obtain rfl|rfl|rfl|rfl|rfl|rfl|rfl:k=1\/k=2\/k=3\/k=4\/k=5\/k=6\/k=7:=by omega
 all_goals decide
theorem Qo5{j:Job}(h:Qk j=true):(1<=j.id/\j.id<=999)/\(0<=j.prio/\j.prio<=999)/\(1<=j.nodes/\j.nodes<=24)/\Qf j.need=true/\Qf j.lic=true/\(1<=j.wall/\j.wall<=1000000)/\(0<=j.level/\j.level<=24):=by
 unfold Qk at h
 simp only[Xab,JA]at h
 obtain⟨⟨⟨⟨⟨⟨a,b⟩,c⟩,d⟩,e⟩,f⟩,g⟩:=h
 exact⟨a,b,c,d,e,f,g⟩
theorem Qum{j:Job}(h:Qk j=true):Qnn (Qcb j)=j:=by
 obtain⟨h1,h2,h3,a,b,h6,h7⟩:=Qo5 h
 unfold Qnn Qcb
 show Job.mk (QQ (QU j.id)).1 (QQ (QU j.prio)).1 (QQ (QU j.nodes)).1 (YV (Jj j.need)).1 (YV (Jj j.lic)).1 (QQ (QU j.wall)).1 (QQ (QU j.level)).1=j
 rw[Q0 (by omega),Q0 (by omega),Q0 (by omega),Qcn a,Qcn b,Q0 (by omega),Q0 (by omega)]
theorem Qru(j:Job):split 32 (jobT j)=Qcb j:=by
 rw[Qrs]
 have e:QU j.id++[32]++QU j.prio++[32]++QU j.nodes++[32]++Jj j.need++[32]++Jj j.lic++[32]++QU j.wall++[32]++QU j.level=QU j.id++[32]++(QU j.prio++[32]++(QU j.nodes++[32]++(Jj j.need++[32]++(Jj j.lic++[32]++(QU j.wall++[32]++QU j.level))))):=by simp
 rw[e,Qa0 Qba,Qa0 Qba,Qa0 Qba,Qa0 Qrr,Qa0 Qrr,Qa0 Qba,Zs Qba]
 rfl
theorem Quf{c:Cmd}(h:Jx c=true):Qcp (Qq c)=c:=by
 have k:=QkF h
 have e:=Qxb k
 by_cases f:c.kind=1
 ·have a:Qk c.job=true/\c.n=0/\Zk c.lic=true:=by
   unfold Jx at h
   rw[if_pos f]at h
   simpa [Bool.and_eq_true,and_assoc] using h
  have b:parts (Qq c) 32=cmdW 1::Qcb c.job:=by rw[QaZ h f,JV,WM,Qa0 Qkk,Qru]
  have d:kdS (Qq c)=kd (cmdW 1) 8:=by unfold kdS;rw[b];rfl
  rw[f]at e
  rw[QgK (by rw[d];exact e) (by rw[b];rfl),cJ,d,e,b]
  show Cmd.mk 1 (Qnn (Qcb c.job)) 0 vec0=c
  rw[Qum a.1,<-Qdd a.2.2,<-a.2.1,<-f]
 ·by_cases g:c.kind=6
  ·have a:Z5 c.job=true/\c.n=0/\Qf c.lic=true:=by
    unfold Jx at h
    rw[if_neg f,if_neg (by omega),if_neg (by omega),if_pos g]at h
    simpa [Bool.and_eq_true,and_assoc] using h
   have b:parts (Qq c) 32=[cmdW 6,Jj c.lic]:=by rw[Qby h g,JV,WM,Qa0 Qkk,Zs Qrr]
   have d:kdS (Qq c)=kd (cmdW 6) 8:=by unfold kdS;rw[b];rfl
   rw[g]at e
   rw[QdR (by rw[d];exact e) (by rw[b];rfl),cL,d,e,b]
   show Cmd.mk 6 job0 0 (YV (Jj c.lic)).1=c
   rw[Qcn a.2.2,<-QmS a.1,<-a.2.1,<-g]
  ·have a:Z5 c.job=true/\Zk c.lic=true/\(0<=c.n/\c.n<=1000000000):=by
    unfold Jx at h
    rw[if_neg f]at h
    by_cases i:c.kind=2\/c.kind=3
    ·rw[if_pos i]at h
     simp only[Xab,JA]at h
     exact⟨h.1.1,h.1.2,by omega⟩
    ·rw[if_neg i]at h
     by_cases j:c.kind=4\/c.kind=5
     ·rw[if_pos j]at h
      simp only[Xab,JA]at h
      exact⟨h.1.1,h.1.2,by omega⟩
     ·rw[if_neg j,if_neg g,if_pos (by omega)]at h
      simp only[Xab,JA]at h
      exact⟨h.1.1,h.1.2,h.2⟩
   have b:parts (Qq c) 32=[cmdW c.kind,QU c.n]:=by rw[Qbz h f g,JV,WM,Qa0 Qkk,Zs Qba]
   have d:kdS (Qq c)=kd (cmdW c.kind) 8:=by unfold kdS;rw[b];rfl
   rw[QeY (by rw[d,e];exact g) (by rw[b];rfl),cN,d,e,b]
   show Cmd.mk c.kind job0 (QQ (QU c.n)).1 vec0=c
   rw[Q0 a.2.2,<-QmS a.1,<-Qdd a.2.1]
theorem Qn1{c:Cmd}(h:Jx c=true):¬Qq c=[]:=fun e=>by
 have hk:=QkF h
 have:=congrArg List.length e
 revert this
 by_cases a:c.kind=1
 ·rw[QaZ h a,JV];simp
 ·by_cases b:c.kind=6
  ·rw[Qby h b,JV];simp
  ·rw[Qbz h a b,JV];simp
theorem Qkx{c:Cmd}(h:Jx c=true):JR (Qq c)=(c,true):=YO (Quf h) (Qn1 h) rfl

theorem QgL:∀{l m:List (List UInt8)} {s:Qb},repO s (l++m)=(repO s l).bind fun s'=>repO s' m
 | [],m,s=>rfl
 | r::l,m,s=>by
  rw[Xa0,repO,repO]
  by_cases ht:(JR r).2=true
  ·rw[if_pos ht,if_pos ht]
   cases ha:(Jw s (JR r).1).1 with
   | none=>rfl
   | some s1=>exact QgL
  ·rw[if_neg ht,if_neg ht]
   rfl
theorem QpU:∀{l:List (List UInt8)} {s s':Qb},Qe s=true->repO s l=some s'->Qe s'=true
 | [],s,s',h,e=>by
  injection e with e
  exact e▸h
 | r::l,s,s',h,e=>by
  unfold repO at e
  split at e
  ·split at e
   ·cases e
   ·rename_i s1 h1
    exact QpU (QiG h1).1 e
  ·cases e
theorem QsS{s s':Qb}{b x:List UInt8}(h:V2 s (b++x)=some s'):∃s1,V2 s b=some s1:=by
 obtain⟨l,a⟩:=(Qrt (QhY b x)).2
 unfold V2 at h ⊢
 rw[a,QgL]at h
 cases c:repO s (Q5 b).1 with
 | none=>rw[c]at h;cases h
 | some s1=>exact⟨s1,rfl⟩
theorem Qpz{s s':Qb}{c:Cmd}{k:Int}(h:Jw s c=(some s',k)):Jx c=true:=by
 cases a:Jx c with
 | true=>rfl
 | false=>
  rw[X4 (fun h'=>by rw[a]at h';cases h'.1)]at h
  cases h
theorem QgB{s:Qb}(h:Jt s=true):Qe s=true:=(pB_t.1 h).ok
theorem QbN{s:Qb}(h:Qe s=true):Xd s s=true:=Qpv h h rfl
theorem Qo4{a b:Qb}(h:Xd a b=true):a=b/\Qe a=true:=by
 unfold Xd at h
 rw[Xab,Xab]at h
 exact⟨pB_t.1 h.2.2,h.1⟩
theorem Wv{c:Ctl}:J9 c=true↔Jt c.first=true/\jnOk c.jn=true/\V2 c.first c.jn.bytes=some c.state/\Qe c.state=true:=by
 unfold J9
 rw[Xab,Xab]
 constructor
 ·rintro ⟨b,d,a⟩
  split at a
  ·cases a
  ·rename_i s g
   obtain⟨e,f⟩:=Qo4 a
   rw[g,<-e]
   exact⟨b,d,rfl,f⟩
 ·rintro ⟨b,d,a,f⟩
  rw[a]
  exact⟨b,d,QbN f⟩
theorem Xw{c d:Ctl}{x:Cmd}(h:J9 c=true)(ht:(Jl c x).1=some d):d.first=c.first/\jnOk d.jn=true/\V2 c.first d.jn.bytes=some d.state/\Qe d.state=true/\(Q5 d.jn.bytes).1=(Q5 c.jn.bytes).1++[Qq x]:=by
 obtain⟨s,a,f,rfl,_⟩:=JU ht
 obtain⟨k1,k2,b,k4⟩:=Wv.1 h
 obtain⟨e,i⟩:=QcF f
 have g:=Qpz a
 refine⟨rfl,i,?_,(QiG (c:=x) (s:=c.state) (by rw[a])).1,by rw[e]⟩
 unfold V2 at b ⊢
 dsimp only
 rw[e,QgL,b]
 show repO c.state [Qq x]=some s
 unfold repO
 rw[Qkx g,if_pos rfl]
 dsimp only
 rw[a]
 rfl
theorem QwV{d:Ctl}(h1:Jt d.first=true)(h2:jnOk d.jn=true)(h3:V2 d.first d.jn.bytes=some d.state)(h4:Qe d.state=true):J9 (Zj d)=true:=Wv.2 ⟨h1,(Que h2).1,h3,h4⟩
theorem QdH{s s':Qb}{b:List UInt8}(h1:Jt s=true)(h2:b.length<=40000)(h3:V2 s b=some s'):Yr s b=(some ⟨s,s',WF b⟩,0):=by
 unfold Yr
 rw[if_pos ⟨h1,h2⟩,h3]
theorem Qqx:Z7 zC=true:=by
 unfold Z7
 rw[show pB (zC.first=zS)=true from pB_t.2 rfl,show pB (zC.state=zS)=true from pB_t.2 rfl]
 rfl
theorem QqA{s s':Qb}{b:List UInt8}{cs:List Int}(h1:Jt s=true)(h2:b.length<=40000)(h3:V2 s b=some s'):QG ⟨false,s,zC,b,cs⟩=true:=by
 unfold QG
 dsimp only
 rw[h1,Qqx,QdH h1 h2 h3]
 rfl
theorem Qt8{s:Qb}{c:Ctl}{cs:List Int}(h1:Jt s=true)(h2:J9 c=true)(h3:c.first=s):QG ⟨true,s,c,[],cs⟩=true:=by
 unfold QG
 dsimp only
 rw[h1,h2,h3,QbN (QgB h1)]
 rfl
theorem QvV{w:Wld}{x:WA}(hw:QG w=true):QG (J0 w x)=true:=by
 obtain⟨z,first,f,bytes,g⟩:=w
 have a:Jt first=true:=by
  unfold QG at hw
  rw[Xab]at hw
  exact hw.1
 cases z with
 | true=>
  have b:=QbV hw rfl
  have u:f.first=first/\bytes=[]:=by
   unfold QG at hw
   simp only[Xab,decide_eq_true_eq]at hw
   exact⟨(Qo4 hw.2.2.1).1,Xbh.1 hw.2.2.2⟩
  obtain⟨i,rfl⟩:=u
  dsimp only at b
  obtain⟨k1,v,s,k4⟩:=Wv.1 b
  have o:=(Ws.1 v).1
  unfold J0
  rw[if_pos rfl]
  split
  ·dsimp only
   cases q:(Jl f x.cmd).1 with
   | none=>exact Qt8 a b i
   | some d=>
    obtain⟨k,n,l,r,_⟩:=Xw b q
    rw[<-k]at l
    exact Qt8 a (QwV (by rw[k,i];exact a) n l r) (by show d.first=first;rw[k,i])
  ·split
   ·dsimp only
    cases q:(Jl f x.cmd).1 with
    | none=>exact Qt8 a b i
    | some d=>
     obtain⟨k,n,l,r,_⟩:=Xw b q
     have p:=(Ws.1 n).1
     have m:V2 f.first (d.jn.bytes.take (JO d.jn x.keep)++d.jn.bytes.drop (JO d.jn x.keep))=some d.state:=by rw[XaK];exact l
     obtain⟨s1,j⟩:=QsS m
     rw[i]at j
     exact QqA a (Xal (Xbg _ _) p) j
   ·split
    ·rw[i]at s
     exact QqA a o s
    ·exact hw
 | false=>
  unfold J0
  rw[if_neg (fun h=>by cases h)]
  split
  ·obtain⟨c,e⟩:=Qb1 hw rfl
   dsimp only at e ⊢
   rw[e]
   unfold Yr at e
   split at e
   ·rename_i t
    split at e
    ·cases e
    ·rename_i y m
     injection e with e _
     injection e with e
     subst e
     show QG ⟨true,first,⟨first,y,WF bytes⟩,[],g⟩=true
     exact Qt8 a (Wv.2 ⟨a,Qiv t.2,by rw[QdQ];exact m,QpU (QgB a) m⟩) rfl
   ·cases e
  ·exact hw
end
end Go.Proofs.YtkdniahincpmaaaGreat
