/-
  Plain: what a change leaves free at each time; what runs ask for, and that a room for them is a matter of sums.
-/
import Derived.Test.YtkdniahincpmaaaGreatQB39
set_option maxRecDepth 100000
set_option maxHeartbeats 16000000
namespace Go.Proofs.YtkdniahincpmaaaGreat
open Go Go.RowKit Tryz
section

theorem Qat(l:List Pt)(x:Pt)(t:Int):QN (l++[x]) t=if x.at'<=t then x.free else QN l t:=by
 simp[QN,List.foldl_append]
theorem Qcz{t u:Int}:∀{l:List Pt} {v:V3},(∀x∈l,x.at'<=t↔x.at'<=u)->l.foldl (fun v x=>if x.at'<=t then x.free else v) v=l.foldl (fun v x=>if x.at'<=u then x.free else v) v
 | [],_,_=>rfl
 | x::l,v,h=>by
  rw[Xa4,Xa4]
  have h1:=h x Xaa
  by_cases hx:x.at'<=t
  ·rw[if_pos hx,if_pos (h1.1 hx)];exact Qcz fun y hy=>h y (Xad _ hy)
  ·rw[if_neg hx,if_neg (fun e=>hx (h1.2 e))];exact Qcz fun y hy=>h y (Xad _ hy)
theorem Qri{l:List Pt}{a b t u:Int}{by':V3->Option V3}(h:∀x,(x=a\/x=b\/x∈atsI l)->(x<=t↔x<=u)):chgV l a b by' t=chgV l a b by' u:=by
 have e:QN l t=QN l u:=Qcz fun x hx=>h x.at' (.inr (.inr (List.mem_map_of_mem hx)))
 have ha:=h a (.inl rfl)
 have hb:=h b (.inr (.inl rfl))
 unfold chgV
 rw[e]
 by_cases c:a<=t/\t<b
 ·rw[if_pos c,if_pos (by omega)]
 ·rw[if_neg c,if_neg (by omega)]
theorem Qol{out:List Pt}{t:Int}(h0:out≠[])(h:(nth out (out.length-1)).at'<=t):QN out t=(nth out (out.length-1)).free:=by
 have hl:0<out.length:=Xbd.2 h0
 have e:out=out.take (out.length-1)++[nth out (out.length-1)]:=by
  rw[<-QF (by omega),show out.length-1+1=out.length by omega,Xal]
 rw[e,Qat,<-e,if_pos h]
theorem QiS{l:List Pt}{a b:Int}{by':V3->Option V3}:∀{ts:List Int} {out q:List Pt},risI ts->(∀x,(x=a\/x=b\/x∈atsI l)->x∈ts\/∀t∈ts,x<t)->(∀t∈ts,out≠[]->(nth out (out.length-1)).at'<t)->
  (∀τ,0<=τ->(∀t∈ts,τ<t)->chgV l a b by' τ=some (QN out τ))->W6 l a b by' ts out=some q->∀τ,0<=τ->chgV l a b by' τ=some (QN q τ)
 | [],out,q,_,_,_,h,e=>by
  injection e with e
  subst e
  exact fun τ h0=>h τ h0 (fun t ht=>by cases ht)
 | t::ts,out,q,hr,hT,hL,h,e=>by
  unfold W6 at e
  split at e
  ·cases e
  ·rename_i v hv
   have hr':=hr
   unfold risI at hr'
   rw[Xau]at hr'
   have hlt:(nth (VT out t v) ((VT out t v).length-1)).at'<=t:=by
    unfold VT
    split
    ·rw[Xab]
     simp only[Xap,XaS,XaZ,Xb1]
     rw[WU];exact Xbf _
    ·rename_i hc
     have:=hL t Xaa (fun e=>hc (.inl e))
     omega
   refine QiS (out:=VT out t v) hr'.2 (fun x hx=>?_) (fun u hu _=>?_) (fun τ h0 hτ=>?_) e
   ·rcases hT x hx with hm|hm
    ·rcases Xai.1 hm with rfl|hm
     ·exact .inr hr'.1
     ·exact .inl hm
    ·exact .inr fun u hu=>hm u (Xad _ hu)
   ·have:=hr'.1 u hu
    omega
   ·by_cases hc:τ<t
    ·rw[h τ h0 (fun u hu=>by
      rcases Xai.1 hu with rfl|hu
      ·exact hc
      ·exact hτ u hu)]
     unfold VT
     split
     ·rw[Qat,if_neg (by simp only;omega)]
     ·rfl
    ·rw[Qri (u:=t) (fun x hx=>?_),hv]
     ·unfold VT
      split
      ·rw[Qat,if_pos (by simp only;omega)]
      ·rename_i hn
       have hne:out≠[]:=fun e=>hn (.inl e)
       have:=hL t Xaa hne
       rw[Qol hne (by omega)]
       exact congrArg some (Classical.not_not.1 fun e=>hn (.inr fun e'=>e e'.symm))
     ·rcases hT x hx with hm|hm
      ·rcases Xai.1 hm with rfl|hm
       ·constructor <;> intro <;> omega
       ·have h1:=hr'.1 x hm
        have h2:=hτ x hm
        constructor <;> intro <;> omega
      ·have:=hm t Xaa
       constructor <;> intro <;> omega
theorem QdW{l:List Pt}{a b:Int}{by':V3->Option V3}:∀{ts:List Int} {out:List Pt},(∀t∈ts,(chgV l a b by' t).isSome=true)->∃q,W6 l a b by' ts out=some q/\q.length<=out.length+ts.length
 | [],out,_=>⟨out,rfl,Xaj _⟩
 | t::ts,out,h=>by
  obtain⟨v,hv⟩:=XaY.1 (h t Xaa)
  obtain⟨q,h1,h2⟩:=QdW (out:=VT out t v) fun u hu=>h u (Xad _ hu)
  refine⟨q,?_,?_⟩
  ·unfold W6
   rw[hv]
   exact h1
  ·have:=V0 out t v
   rw[Xap]
   omega
theorem Qju{l q:List Pt}{a b:Int}{v:V3}(h:Vo l a b v=some q):∀τ,0<=τ->QN l τ=if a<=τ/\τ<b then addV (QN q τ) v else QN q τ:=by
 unfold Vo at h
 split at h
 ·rename_i f
  simp only[Xac]at f
  have j:=JE.1 f.1.1
  obtain⟨n,o⟩:=XK j a b
  have g:=Qhv j f.1.2
  unfold chgP at h
  cases e:W6 l a b (fun x=>subO x v) (QP l a b) [] with
  | none=>rw[e]at h;cases h
  | some r=>
   rw[e]at h
   simp only[Xbc]at h
   split at h
   ·injection h with h
    subst h
    intro τ k
    obtain⟨ts,m⟩:=g.2
    have c:=QiS (out:=[]) n (fun x hx=>.inl ((o x).2 (by rcases hx with h|h|h;exact .inr (.inl h);exact .inl h;exact .inr (.inr h)))) (fun _ _ h=>absurd rfl h) (fun σ hσ i=>by
     have:=i 0 (by rw[m];exact Xaa)
     omega) e τ k
    by_cases d:a<=τ/\τ<b
    ·rw[if_pos d]
     rw[chgV,if_pos d]at c
     unfold subO valO at c
     split at c
     ·injection c with c
      rw[<-c]
      cases i:QN l τ
      simp[addV,Qgv]
     ·cases c
    ·rw[if_neg d]
     rw[chgV,if_neg d]at c
     injection c
   ·cases h
 ·cases h
theorem Qge{l:List Pt}{a b:Int}{v:V3}(hp:Jx l)(hs:Vm a b=true)(hv:Qh v=true)(hl:l.length+2<=200)(h:∀τ,a<=τ->τ<b->Za v (QN l τ)=true):∃q,Vo l a b v=some q/\q.length<=l.length+2:=by
 obtain⟨q,d,e⟩:=QdW (l:=l) (a:=a) (b:=b) (by':=fun x=>subO x v) (ts:=QP l a b) (out:=[]) fun t _=>by
  unfold chgV
  split
  ·rename_i c
   show(subO (QN l t) v).isSome=true
   rw[Quh (h t c.1 c.2)];rfl
  ·rfl
 have h3:=Qby (l:=l) (a:=a) (b:=b)
 rw[XaS]at e
 refine⟨q,?_,by omega⟩
 unfold Vo chgP
 rw[if_pos (by rw[JE.2 hp,hs,hv];rfl),d]
 simp only[Xbc]
 rw[if_pos (by omega)]

theorem Va{l:List Int}{x:Int}:hasI l x=true↔x∈l:=by
 rw[Qbg]
 constructor
 ·rintro ⟨j,d,rfl⟩
  exact QE d
 ·exact fun h=>Jt h
def leV(x y:V3):Prop:=x.a<=y.a/\x.b<=y.b/\x.c<=y.c
def sumV:List V3->V3
 | []=>zV
 | v::l=>addV v (sumV l)
theorem QbS{x y:V3}(h1:x.a=y.a)(h2:x.b=y.b)(h3:x.c=y.c):x=y:=by
 cases x;cases y;simp_all
theorem QhH:∀(l m:List V3),sumV (l++m)=addV (sumV l) (sumV m)
 | [],m=>by cases h:sumV m;simp[sumV,addV,zV,h]
 | v::l,m=>by
  rw[Xbp,sumV,QhH l m,sumV]
  exact QbS (by simp only[addV];omega) (by simp only[addV];omega) (by simp only[addV];omega)
theorem Qc8(x:V3):leV x x:=⟨Xbf _,Xbf _,Xbf _⟩
theorem Qjo{x y z:V3}(h:leV x y)(h':leV y z):leV x z:=⟨Int.le_trans h.1 h'.1,Int.le_trans h.2.1 h'.2.1,Int.le_trans h.2.2 h'.2.2⟩
theorem QgJ:∀{l:List V3},(∀v∈l,leV zV v)->leV zV (sumV l)
 | [],_=>Qc8 _
 | v::l,h=>by
  have h1:=h v Xaa
  have h2:=QgJ fun u hu=>h u (Xad _ hu)
  simp only[leV,sumV,addV,zV]at *
  omega
theorem Qll{l m:List V3}(h:l.Sublist m):(∀v∈m,leV zV v)->leV (sumV l) (sumV m):=by
 induction h with
 | slnil=>exact fun _=>Qc8 _
 | @cons l m v _ ih=>
  intro b
  have c:=ih fun u hu=>b u (Xad _ hu)
  have h2:=b v Xaa
  simp only[leV,sumV,addV,zV]at *
  omega
 | @cons_cons l m v _ ih=>
  intro b
  have c:=ih fun u hu=>b u (Xad _ hu)
  simp only[leV,sumV,addV]at *
  omega
def winB(now τ:Int)(x:Run):Bool:=decide (now<=τ)&&decide (τ<x.at'+x.job.wall)
def demN(now:Int)(xs:List Run)(k:Nat)(τ:Int):V3:=sumV ((xs.filter fun x=>winB now τ x&&hasI x.nodes (k:Int)).map fun x=>x.job.need)
def demL(now:Int)(xs:List Run)(τ:Int):V3:=sumV ((xs.filter fun x=>winB now τ x).map fun x=>x.job.lic)
theorem Qbu(now:Int)(x:Run)(xs:List Run)(k:Nat)(τ:Int):demN now (x::xs) k τ=if(winB now τ x&&hasI x.nodes (k:Int))=true then addV x.job.need (demN now xs k τ)else demN now xs k τ:=by
 unfold demN
 rw[Xa7]
 split <;> rfl
theorem Qbt(now:Int)(x:Run)(xs:List Run)(τ:Int):demL now (x::xs) τ=if winB now τ x=true then addV x.job.lic (demL now xs τ)else demL now xs τ:=by
 unfold demL
 rw[Xa7]
 split <;> rfl
theorem QmT(now:Int)(xs ys:List Run)(k:Nat)(τ:Int):demN now (xs++ys) k τ=addV (demN now xs k τ) (demN now ys k τ):=by
 unfold demN
 rw[Xa5,XaG,QhH]
theorem QlH(now:Int)(xs ys:List Run)(τ:Int):demL now (xs++ys) τ=addV (demL now xs τ) (demL now ys τ):=by
 unfold demL
 rw[Xa5,XaG,QhH]
theorem Y2{v:V3}(h:Qh v=true):leV zV v:=by
 obtain⟨a,b,c⟩:=WT h
 exact⟨a.1,b.1,c.1⟩
theorem Qb2{j:Job}(h:Qm j=true):Qh j.need=true/\Qh j.lic=true:=by
 simp only[Qm,Xac]at h
 exact⟨h.1.1.1.2,h.1.1.2⟩
theorem Qfd{α:Type}{p q:α->Bool}{l m:List α}(h:l.Sublist m):(∀x∈l,p x=true->q x=true)->(l.filter p).Sublist (m.filter q):=by
 induction h with
 | slnil=>exact fun _=>List.Sublist.slnil
 | @cons l m x _ ih=>
  intro a
  rw[Xa7 (p:=q)]
  split
  ·exact(ih a).cons _
  ·exact ih a
 | @cons_cons l m x _ ih=>
  intro a
  have b:=ih fun y hy=>a y (Xad _ hy)
  have d:=a x Xaa
  rw[Xa7,Xa7 (p:=q)]
  by_cases c:p x=true
  ·rw[if_pos c,if_pos (d c)];exact b.cons_cons _
  ·rw[if_neg c]
   split
   ·exact b.cons _
   ·exact b
theorem QmF{now now' τ:Int}{x:Run}(h:now<=now')(hw:winB now' τ x=true):winB now τ x=true:=by
 simp only[winB,Xac,decide_eq_true_eq]at *
 omega
theorem Qsh{now now':Int}{xs ys:List Run}(h:ys.Sublist xs)(hn:now<=now')(hx:∀x∈xs,Qm x.job=true)(k:Nat)(τ:Int):leV (demN now' ys k τ) (demN now xs k τ):=by
 refine Qll ((Qfd h fun x _ hp=>?_).map _) fun v hv=>?_
 ·rw[Xac]at *
  exact⟨QmF hn hp.1,hp.2⟩
 ·obtain⟨x,a,rfl⟩:=Xaf.1 hv
  exact Y2 (Qb2 (hx x (XaB.1 a).1)).1
theorem Qtk{now now':Int}{xs ys:List Run}(h:ys.Sublist xs)(hn:now<=now')(hx:∀x∈xs,Qm x.job=true)(τ:Int):leV (demL now' ys τ) (demL now xs τ):=by
 refine Qll ((Qfd h fun x _ hp=>QmF hn hp).map _) fun v hv=>?_
 obtain⟨x,a,rfl⟩:=Xaf.1 hv
 exact Y2 (Qb2 (hx x (XaB.1 a).1)).2
theorem QdX{a b:Int}{v:V3}:∀{ns:List Int} {ps qs:List (List Pt)},(∀n∈ns,0<=n/\n.toNat<ps.length)->ns.Nodup->QaM a b v ns ps=some qs->qs.length=ps.length/\
  ∀k,k<ps.length->∀τ,0<=τ->QN (nth ps k) τ=if(a<=τ/\τ<b)/\(k:Int)∈ns then addV (QN (nth qs k) τ) v else QN (nth qs k) τ
 | [],ps,qs,_,_,e=>by
  injection e with e;subst e
  exact⟨rfl,fun k _ τ _=>by rw[if_neg (fun h=>by cases h.2)]⟩
 | n::ns,ps,qs,hn,hd,e=>by
  unfold QaM at e
  split at e
  ·cases e
  ·rename_i q hq
   have h1:=hn n Xaa
   rw[XaQ]at hd
   obtain⟨g1,g2⟩:=QdX (ns:=ns) (ps:=ps.set n.toNat q) (qs:=qs) (fun m hm=>by rw[Xaw];exact hn m (Xad _ hm)) hd.2 e
   rw[Xaw]at g1 g2
   refine⟨g1,fun k hk τ h0=>?_⟩
   have g:=g2 k hk τ h0
   rw[Qb0 h1.2]at g
   by_cases hkn:n.toNat=k
   ·rw[if_pos hkn]at g
    have hkn':(k:Int)=n:=by omega
    rw[hkn',if_neg (fun h=>hd.1 h.2)]at g
    have hv:=Qju hq τ h0
    rw[hkn]at hv
    rw[hv,hkn',g]
    by_cases hw:a<=τ/\τ<b
    ·rw[if_pos hw,if_pos ⟨hw,Xaa⟩]
    ·rw[if_neg hw,if_neg (fun h=>hw h.1)]
   ·rw[if_neg hkn]at g
    rw[g]
    have hne:(k:Int)≠n:=by omega
    by_cases hm:(k:Int)∈ns
    ·by_cases hw:a<=τ/\τ<b
     ·rw[if_pos ⟨hw,hm⟩,if_pos ⟨hw,Xad _ hm⟩]
     ·rw[if_neg (fun h=>hw h.1),if_neg (fun h=>hw h.1)]
    ·rw[if_neg (fun h=>hm h.2),if_neg (fun h=>by
      rcases Xai.1 h.2 with h|h
      ·exact hne h
      ·exact hm h)]
theorem QfS{a b:Int}{v:V3}(hs:Vm a b=true)(hv:Qh v=true):∀{ns:List Int} {ps:List (List Pt)},(∀n∈ns,0<=n/\n.toNat<ps.length)->ns.Nodup->(∀n∈ns,Jx (nth ps n.toNat)/\(nth ps n.toNat).length+2<=200)->
  (∀n∈ns,∀τ,a<=τ->τ<b->Za v (QN (nth ps n.toNat) τ)=true)->∃qs,QaM a b v ns ps=some qs/\∀k,k<ps.length->((k:Int)∉ns->nth qs k=nth ps k)/\(nth qs k).length<=(nth ps k).length+2
 | [],ps,_,_,_,_=>⟨ps,rfl,fun k _=>⟨fun _=>rfl,by omega⟩⟩
 | n::ns,ps,hn,hd,hp,hf=>by
  have h1:=hn n Xaa
  have h2:=hp n Xaa
  rw[XaQ]at hd
  obtain⟨q,hq,hql⟩:=Qge h2.1 hs hv h2.2 (hf n Xaa)
  have hne:∀m∈ns,nth (ps.set n.toNat q) m.toNat=nth ps m.toNat:=fun m hm=>by
   rw[Qb0 h1.2,if_neg]
   intro e
   have h3:=hn m (Xad _ hm)
   have:n=m:=by omega
   exact hd.1 (this▸hm)
  obtain⟨qs,h4,h5⟩:=QfS hs hv (ns:=ns) (ps:=ps.set n.toNat q) (fun m hm=>by rw[Xaw];exact hn m (Xad _ hm)) hd.2
   (fun m hm=>by rw[hne m hm];exact hp m (Xad _ hm)) (fun m hm=>by rw[hne m hm];exact hf m (Xad _ hm))
  rw[Xaw]at h5
  refine⟨qs,?_,fun k hk=>?_⟩
  ·unfold QaM
   rw[hq]
   exact h4
  ·obtain⟨h6,h7⟩:=h5 k hk
   rw[Qb0 h1.2]at h6 h7
   by_cases hkn:n.toNat=k
   ·rw[if_pos hkn]at h6 h7
    have hkn':(k:Int)=n:=by omega
    refine⟨fun h=>absurd (hkn'▸Xaa) h,?_⟩
    rw[h6 (by rw[hkn'];exact hd.1),<-hkn]
    exact hql
   ·rw[if_neg hkn]at h6 h7
    exact⟨fun h=>h6 fun h'=>h (Xad _ h'),h7⟩
theorem XQ{t:QX}{j:Job}{l:List Int}(h:Qc0 t j l):l.Nodup:=by
 unfold List.Nodup
 rw[Xa9]
 intro i k hi b d e
 have a:=h.diff k b
 have c:hasI (l.take k) (nth l k)=true:=by
  rw[Qbg]
  refine⟨i,by rw[Xah];omega,?_⟩
  rw[Jd (by rw[Xah];omega),Jd b,List.getElem_take]
  exact e
 rw[c]at a
 cases a
theorem XZ{t:QX}{j:Job}{l:List Int}(h:Qc0 t j l):∀n∈l,0<=n/\n.toNat<t.nodes.length:=fun n hn=>by
 obtain⟨i,a,e⟩:=Jt hn
 have:=h.nodes i a
 rw[e]at this
 omega
theorem QgR{r r':Jn}{j:Job}{a b:Int}{l:List Int}(h:resO r j a b l=some r'):(∀k,k<r.profs.length->∀τ,0<=τ->QN (nth r.profs k) τ=if(a<=τ/\τ<b)/\(k:Int)∈l then addV (QN (nth r'.profs k) τ) j.need else QN (nth r'.profs k) τ)/\
  ∀τ,0<=τ->QN r.lics τ=if a<=τ/\τ<b then addV (QN r'.lics τ) j.lic else QN r'.lics τ:=by
 unfold resO at h
 split at h
 ·rename_i f
  simp only[Xac]at f
  obtain⟨⟨d,h2⟩,c⟩:=f
  have d:=pB_t.1 d
  have c:=pB_t.1 c
  split at h
  ·cases h
  ·rename_i ps e
   split at h
   ·cases h
   ·rename_i q i
    injection h with h
    subst h
    obtain⟨g1,g⟩:=QdX (fun n hn=>by rw[d.num];exact XZ c n hn) (XQ c) e
    exact⟨g,Qju i⟩
 ·cases h
def QqK(m:Nat)(r:Jn):Prop:=(∀k,k<r.profs.length->(nth r.profs k).length+m<=200)/\r.lics.length+m<=200
theorem QoG{r:Jn}{j:Job}{a b:Int}{l:List Int}{m:Nat}(hr:Q6 r)(hj:Qm j=true)(hd:Qc0 r.topo j l)(hs:Vm a b=true)(hm:QqK (m+2) r)
  (h1:∀k,k<r.profs.length->(k:Int)∈l->∀τ,a<=τ->τ<b->leV j.need (QN (nth r.profs k) τ)) (h2:∀τ,a<=τ->τ<b->leV j.lic (QN r.lics τ)):∃r',resO r j a b l=some r'/\QqK m r':=by
 obtain⟨f,g⟩:=Qb2 hj
 obtain⟨p,e,h⟩:=QfS hs f (ns:=l) (ps:=r.profs) (fun n hn=>by rw[hr.num];exact XZ hd n hn) (XQ hd) (fun n hn=>by
  have:=(XZ hd n hn).2
  rw[<-hr.num]at this
  exact⟨hr.profs _ this,by have:=hm.1 _ this;omega⟩) (fun n hn τ ha hb=>by
  obtain⟨o,c⟩:=XZ hd n hn
  rw[<-hr.num]at c
  have:=h1 n.toNat c (by rw[Xbi o];exact hn) τ ha hb
  exact Xg.2 ⟨f,Wa (hr.profs _ c) τ,this.1,this.2.1,this.2.2⟩)
 obtain⟨q,i,g4⟩:=Qge hr.lics hs g (by have:=hm.2;omega) (fun τ ha hb=>by
  have:=h2 τ ha hb
  exact Xg.2 ⟨g,Wa hr.lics τ,this.1,this.2.1,this.2.2⟩)
 have d:=(QdX (fun n hn=>by rw[hr.num];exact XZ hd n hn) (XQ hd) e).1
 refine⟨⟨r.topo,r.up,p,q⟩,?_,fun k hk=>?_,?_⟩
 ·unfold resO
  rw[if_pos (by rw[show QjW r=true from pB_t.2 hr,hj,show Z4 r.topo j l=true from pB_t.2 hd];rfl),e]
  dsimp only
  rw[i]
 ·dsimp only at hk ⊢
  rw[d]at hk
  have:=(h k hk).2
  have:=hm.1 k hk
  omega
 ·have:=hm.2
  dsimp only
  omega
theorem QfE{now:Int}(hnow:0<=now):∀{xs:List Run} {r r':Jn},Q6 r->Ww now xs r=some r'->(∀k,k<r.profs.length->∀τ,0<=τ->QN (nth r.profs k) τ=addV (QN (nth r'.profs k) τ) (demN now xs k τ))/\
  ∀τ,0<=τ->QN r.lics τ=addV (QN r'.lics τ) (demL now xs τ)
 | [],r,r',_,e=>by
  injection e with e;subst e
  exact⟨fun k _ τ _=>QbS (by simp[addV,demN,sumV,zV]) (by simp[addV,demN,sumV,zV]) (by simp[addV,demN,sumV,zV]),fun τ _=>QbS (by simp[addV,demL,sumV,zV]) (by simp[addV,demL,sumV,zV]) (by simp[addV,demL,sumV,zV])⟩
 | x::xs,r,r',h,e=>by
  unfold Ww at e
  split at e
  ·split at e
   ·cases e
   ·rename_i r1 h1
    obtain⟨g1,g2⟩:=QgR h1
    have k1:=(Xr h1).1
    have kt:=(Xr h1).2.1
    obtain⟨g3,g4⟩:=QfE hnow k1 e
    have hl:r1.profs.length=r.profs.length:=by rw[k1.num,h.num,kt]
    rw[hl]at g3
    refine⟨fun k hk τ h0=>?_,fun τ h0=>?_⟩
    ·have a1:=g1 k hk τ h0
     have a2:=g3 k hk τ h0
     rw[Qbu]
     by_cases hc:(winB now τ x&&hasI x.nodes (k:Int))=true
     ·rw[if_pos hc]
      simp only[winB,Xac,decide_eq_true_eq,Va]at hc
      rw[if_pos ⟨hc.1,hc.2⟩]at a1
      rw[a1,a2]
      exact QbS (by simp only[addV];omega) (by simp only[addV];omega) (by simp only[addV];omega)
     ·rw[if_neg hc]
      simp only[winB,Xac,decide_eq_true_eq,Va]at hc
      rw[if_neg hc]at a1
      rw[a1,a2]
    ·have a1:=g2 τ h0
     have a2:=g4 τ h0
     rw[Qbt]
     by_cases hc:winB now τ x=true
     ·rw[if_pos hc]
      simp only[winB,Xac,decide_eq_true_eq]at hc
      rw[if_pos hc]at a1
      rw[a1,a2]
      exact QbS (by simp only[addV];omega) (by simp only[addV];omega) (by simp only[addV];omega)
     ·rw[if_neg hc]
      simp only[winB,Xac,decide_eq_true_eq]at hc
      rw[if_neg hc]at a1
      rw[a1,a2]
  ·cases e
theorem QsP{now:Int}{xs:List Run}(hx:∀x∈xs,Qm x.job=true)(k:Nat)(τ:Int):leV zV (demN now xs k τ):=QgJ fun v hv=>by
 obtain⟨x,a,rfl⟩:=Xaf.1 hv
 exact Y2 (Qb2 (hx x (XaB.1 a).1)).1
theorem Qt4{now:Int}{xs:List Run}(hx:∀x∈xs,Qm x.job=true)(τ:Int):leV zV (demL now xs τ):=QgJ fun v hv=>by
 obtain⟨x,a,rfl⟩:=Xaf.1 hv
 exact Y2 (Qb2 (hx x (XaB.1 a).1)).2
theorem QcS{now:Int}{x:Run}:runB now x=true↔Qm x.job=true/\(0<=x.at'/\x.at'<=now)/\now+1<=x.at'+x.job.wall/\x.at'+x.job.wall<=1000000000:=by
 simp only[runB,Xac,J4,and_assoc]
theorem QeP{now:Int}(hnow:0<=now):∀{xs:List Run} {r:Jn},Q6 r->QqK (2*xs.length) r->(∀x∈xs,runB now x=true/\Qc0 r.topo x.job x.nodes)->
  (∀k,k<r.profs.length->∀τ,0<=τ->leV (demN now xs k τ) (QN (nth r.profs k) τ))->(∀τ,0<=τ->leV (demL now xs τ) (QN r.lics τ))->(Ww now xs r).isSome=true
 | [],r,_,_,_,_,_=>rfl
 | x::xs,r,hr,hm,hx,h1,h2=>by
  obtain⟨hb,hd⟩:=hx x Xaa
  obtain⟨b1,b2,b3,b4⟩:=QcS.1 hb
  have hpos:∀y∈xs,Qm y.job=true:=fun y hy=>(QcS.1 (hx y (Xad _ hy)).1).1
  have hs:Vm now (x.at'+x.job.wall)=true:=Vc.2 ⟨⟨hnow,by omega⟩,⟨by omega,b4⟩,by omega⟩
  obtain⟨r1,g1,g2⟩:=QoG (m:=2*xs.length) hr b1 hd hs (by rw[Xap]at hm;exact hm) (fun k hk hkl τ ha hb'=>by
   have:=h1 k hk τ (by omega)
   rw[Qbu,if_pos (by simp only[winB,Xac,decide_eq_true_eq,Va];exact⟨⟨ha,hb'⟩,hkl⟩)]at this
   have hp:=QsP (now:=now) hpos k τ
   simp only[leV,addV,zV]at *
   omega) (fun τ ha hb'=>by
   have:=h2 τ (by omega)
   rw[Qbt,if_pos (by simp only[winB,Xac,decide_eq_true_eq];exact⟨ha,hb'⟩)]at this
   have hp:=Qt4 (now:=now) hpos τ
   simp only[leV,addV,zV]at *
   omega)
  obtain⟨v1,v2⟩:=QgR g1
  obtain⟨k1,k2,_⟩:=Xr g1
  have hl:r1.profs.length=r.profs.length:=by rw[k1.num,hr.num,k2]
  unfold Ww
  rw[if_pos hb,g1]
  dsimp only
  refine QeP hnow k1 g2 (fun y hy=>by rw[k2];exact hx y (Xad _ hy)) (fun k hk τ h0=>?_) (fun τ h0=>?_)
  ·rw[hl]at hk
   have a1:=h1 k hk τ h0
   have a2:=v1 k hk τ h0
   rw[Qbu]at a1
   by_cases hc:(winB now τ x&&hasI x.nodes (k:Int))=true
   ·rw[if_pos hc]at a1
    simp only[winB,Xac,decide_eq_true_eq,Va]at hc
    rw[if_pos hc]at a2
    rw[a2]at a1
    simp only[leV,addV]at *
    omega
   ·rw[if_neg hc]at a1
    simp only[winB,Xac,decide_eq_true_eq,Va]at hc
    rw[if_neg hc]at a2
    rwa [a2]at a1
  ·have a1:=h2 τ h0
   have a2:=v2 τ h0
   rw[Qbt]at a1
   by_cases hc:winB now τ x=true
   ·rw[if_pos hc]at a1
    simp only[winB,Xac,decide_eq_true_eq]at hc
    rw[if_pos hc]at a2
    rw[a2]at a1
    simp only[leV,addV]at *
    omega
   ·rw[if_neg hc]at a1
    simp only[winB,Xac,decide_eq_true_eq]at hc
    rw[if_neg hc]at a2
    rwa [a2]at a1

theorem QhZ{n x:Int}:∀{g out:List Int},x∈WB n out g->x∈out\/x∈g
 | [],out,h=>.inl h
 | y::g,out,h=>by
  rw[show WB n out (y::g)=WB n (if(out.length:Int)<n then rise y out else out) g from rfl]at h
  rcases QhZ h with h|h
  ·split at h
   ·rcases Qc4.1 h with rfl|h
    ·exact .inr Xaa
    ·exact .inl h
   ·exact .inl h
  ·exact .inr (Xad _ h)
theorem Qmy{n:Int}:∀{g out:List Int},out.Pairwise (·<=·)->(WB n out g).Pairwise (·<=·)
 | [],_,h=>h
 | y::g,out,h=>by
  rw[show WB n out (y::g)=WB n (if(out.length:Int)<n then rise y out else out) g from rfl]
  refine Qmy ?_
  split
  ·exact Qj5 _ _ h
  ·exact h
theorem QqP{t:QX}{m:List Int}{n x:Int}:∀{f:Nat} {out tk:List Int},x∈chR t m n f out tk->x∈out\/x∈m
 | 0,out,tk,h=>.inl h
 | f+1,out,tk,h=>by
  unfold chR at h
  split at h
  ·rcases QqP h with h|h
   ·exact(QhZ h).imp id (QbL x)
   ·exact .inr h
  ·exact .inl h
theorem Quq{t:QX}{m:List Int}{n:Int}:∀{f:Nat} {out tk:List Int},out.Pairwise (·<=·)->(chR t m n f out tk).Pairwise (·<=·)
 | 0,out,tk,h=>h
 | f+1,out,tk,h=>by
  unfold chR
  split
  ·exact Quq (Qmy h)
  ·exact h
theorem Qum{t:QX}{l:List Int}{n most:Int}:∀(i:Nat),0<=swU t l n most i->lvl t.parents (swU t l n most i).toNat<=most
 | 0=>fun h=>by simp[swU]at h
 | i+1=>by
  have ih:=Qum (t:=t) (l:=l) (n:=n) (most:=most) i
  rw[QrC]
  unfold swS
  split
  ·rename_i h
   intro _
   exact h.2.1
  ·exact ih
theorem QpG{t:QX}{l:List Int}{s:Nat}(ht:Q3 t)(hl:Jo t l)(hs:allU t l s=true):∀(i:Nat),s<i->lvl t.parents (lowU t l i).toNat<=lvl t.parents s
 | 0,h=>absurd h (Xaq _)
 | i+1,h=>by
  rw[QiT]
  by_cases e:s=i
  ·subst e
   split
   ·exact Xbf _
   ·rename_i hc
    by_cases hneg:lowU t l s<0
    ·exact absurd ⟨hs,.inl hneg⟩ hc
    ·by_cases hle:lvl t.parents s<=lvl t.parents (lowU t l s).toNat
     ·exact absurd ⟨hs,.inr hle⟩ hc
     ·omega
  ·have ih:=QpG ht hl hs i (by omega)
   have hge:=QkG ht hl i (by omega)
   split
   ·rename_i hc
    rw[show((i:Nat):Int).toNat=i from XbS i]
    rcases hc.2 with h1|h1
    ·omega
    ·omega
   ·exact ih
theorem Qxk{l:List Int}(h:l.Pairwise (·<=·))(hd:l.Nodup):ascP l:=fun j hj=>by
 have a:=Xa9.1 h j (j+1) (by omega) hj (by omega)
 have b:=Xa9.1 hd j (j+1) (by omega) hj (by omega)
 rw[Jd (by omega),Jd hj]
 exact Int.lt_iff_le_and_ne.2 ⟨a,b⟩
theorem QpQ{t:QX}{l c:List Int}{n most:Int}(ht:Q3 t)(hl:Jo t l)(h:WJ t l n most=some c)(hd:c.Nodup):(∀x∈c,x∈l)/\ascP c/\lvl t.parents (lowI t c).toNat<=most:=by
 unfold WJ at h
 split at h
 ·cases h
 ·rename_i g
  injection h with h
  have e:=QfC (t:=t) (l:=l) (n:=n) (most:=most) t.parents.length
  have b:=Qum (t:=t) (l:=l) (n:=n) (most:=most) t.parents.length
  rw[show swU t l n most t.parents.length=swI t l n most from rfl]at e b
  have f:∀x∈c,x∈Ju t l (swI t l n most):=fun x a=>by
   rw[<-h]at a
   rcases QqP a with a|a
   ·cases a
   ·exact a
  have d:Jo t c:=WP.2 fun x a=>WP.1 hl x (QbL x (f x a))
  refine⟨fun x a=>QbL x (f x a),Qxk (by rw[<-h];exact Quq List.Pairwise.nil) hd,Int.le_trans (QpG (s:=(swI t l n most).toNat) ht d ?_ t.parents.length (by omega)) (b (by omega))⟩
  unfold allU
  rw[XaD]
  intro x a
  have:=(XaB.1 (f x a)).2
  unfold Qf9 at this
  rw[Xbi (by omega)]
  exact this
theorem Qk7{r:Jn}{need:V3}{a b x:Int}(h:x∈Qa3 r need a b):0<=x/\x.toNat<r.profs.length/\nth r.up x.toNat=true:=by
 unfold Qa3 elU at h
 obtain⟨i,e,rfl⟩:=Xaf.1 h
 obtain⟨d,c⟩:=XaB.1 e
 unfold elB at c
 rw[Xac]at c
 rw[XbZ]at d
 refine⟨Int.natCast_nonneg i,?_,?_⟩
 ·rw[show((i:Nat):Int).toNat=i from XbS i];exact d
 ·rw[show((i:Nat):Int).toNat=i from XbS i];exact c.1
theorem Qil{r:Jn}{j:Job}:∀{ts:List Int} {x:Int×List Int},Qai r j ts=some x->canO r j x.1=some x.2/\x.1∈ts
 | [],x,h=>by cases h
 | t::ts,x,h=>by
  unfold Qai at h
  split at h
  ·rename_i l hl
   injection h with h
   subst h
   exact⟨hl,Xaa⟩
  ·obtain⟨h1,h2⟩:=Qil h
   exact⟨h1,Xad _ h2⟩
structure PutP (t:QX) (up:List Bool) (j:Job) (at':Int) (l:List Int):Prop where
 up:∀i,i<l.length->nth up (nth l i).toNat=true
 asc:ascP l
 level:lvl t.parents (lowI t l).toNat<=j.level
 diff:Qc0 t j l
 ok:Qm j=true
 wall:at'+j.wall<=1000000000
theorem Qw6{r r':Jn}{j:Job}{a b c:Int}{x:Int×List Int}(hr:Q6 r)(h:earO r j a=some x)(h2:resO r j b c x.2=some r'):PutP r.topo r.up j x.1 x.2:=by
 obtain⟨d,_⟩:=Qil h
 obtain⟨_,_,_,f,m⟩:=Xr h2
 unfold canO at d
 split at d
 ·rename_i l
  have e:Jo r.topo (Qa3 r j.need x.1 (x.1+j.wall)):=WP.2 fun y hy=>by
   obtain⟨g1,g,_⟩:=Qk7 hy
   rw[hr.num]at g
   omega
  obtain⟨n,o,p⟩:=QpQ hr.topo e d (XQ f)
  exact⟨fun i hi=>(Qk7 (n _ (QE hi))).2.2,o,p,f,m,l.1⟩
 ·cases d
def newR(now:Int)(qs:List Job)(hs:List JL):List Run:=hs.map fun h=>⟨(VH qs h.id).getD default,now,h.nodes⟩
structure PlanV (r:Jn) (now:Int) (qs:List Job) (q:Jn×List JL×List JL):Prop where
 node:∀k,k<r.profs.length->∀τ,0<=τ->leV (addV (QN (nth q.1.profs k) τ) (demN now (newR now qs q.2.1) k τ)) (QN (nth r.profs k) τ)
 lic:∀τ,0<=τ->leV (addV (QN q.1.lics τ) (demL now (newR now qs q.2.1) τ)) (QN r.lics τ)
 put:∀h∈q.2.1,∃j,VH qs h.id=some j/\PutP r.topo r.up j now h.nodes
theorem Qia(now:Int)(qs:List Job)(hs:List JL)(h:JL):newR now qs (hs++[h])=newR now qs hs++[⟨(VH qs h.id).getD default,now,h.nodes⟩]:=by simp[newR]
theorem Qbv(v:V3):addV v zV=v:=QbS (by simp[addV,zV]) (by simp[addV,zV]) (by simp[addV,zV])
theorem QsL(now:Int)(x:Run)(k:Nat)(τ:Int):demN now [x] k τ=if(winB now τ x&&hasI x.nodes (k:Int))=true then x.job.need else zV:=by
 rw[Qbu]
 split
 ·exact Qbv _
 ·rfl
theorem Qsb(now:Int)(x:Run)(τ:Int):demL now [x] τ=if winB now τ x=true then x.job.lic else zV:=by
 rw[Qbt]
 split
 ·exact Qbv _
 ·rfl
theorem QnR{r:Jn}{now depth:Int}{qs:List Job}{q:Jn×List JL×List JL}{js:List Job}{j:Job}(hr:Q6 r)(hI:Qob r now js q)(h:PlanV r now qs q)(hj:VH qs j.id=some j):PlanV r now qs (Qiy now depth q j):=by
 unfold Qiy
 split
 ·exact h
 ·rename_i x o
  split
  ·exact h
  ·split
   ·exact h
   ·rename_i r' f
    obtain⟨g,i⟩:=QgR f
    obtain⟨k1,k2,k3,k4,p⟩:=Xr f
    have e:=Qw6 hI.room o f
    rw[hI.topo.1,hI.topo.2]at e
    obtain⟨l,m⟩:=Qb2 p
    have l:=Y2 l
    have m:=Y2 m
    have n:q.1.profs.length=r.profs.length:=by rw[hI.room.num,hr.num,hI.topo.1]
    rw[n]at g
    split
    ·rename_i d
     refine⟨fun k hk τ h0=>?_,fun τ h0=>?_,fun y hy=>?_⟩
     ·have b:=h.node k hk τ h0
      have a:=g k hk τ h0
      dsimp only
      rw[Qia,QmT,QsL]
      simp only[hj,XaJ]
      by_cases c:(winB now τ ⟨j,now,x.2⟩&&hasI x.2 (k:Int))=true
      ·rw[if_pos c]
       simp only[winB,Xac,decide_eq_true_eq,Va]at c
       rw[d,if_pos c]at a
       rw[a]at b
       simp only[leV,addV]at *
       omega
      ·rw[if_neg c]
       simp only[winB,Xac,decide_eq_true_eq,Va]at c
       rw[d,if_neg c]at a
       rw[a]at b
       simp only[leV,addV,zV]at *
       omega
     ·have b:=h.lic τ h0
      have a:=i τ h0
      dsimp only
      rw[Qia,QlH,Qsb]
      simp only[hj,XaJ]
      by_cases c:winB now τ ⟨j,now,x.2⟩=true
      ·rw[if_pos c]
       simp only[winB,Xac,decide_eq_true_eq]at c
       rw[d,if_pos c]at a
       rw[a]at b
       simp only[leV,addV]at *
       omega
      ·rw[if_neg c]
       simp only[winB,Xac,decide_eq_true_eq]at c
       rw[d,if_neg c]at a
       rw[a]at b
       simp only[leV,addV,zV]at *
       omega
     ·rcases Xag.1 hy with hy|hy
      ·exact h.put y hy
      ·obtain rfl:=XaH.1 hy
       rw[d]at e
       exact⟨j,hj,e⟩
    ·refine⟨fun k hk τ h0=>?_,fun τ h0=>?_,h.put⟩
     ·have b:=h.node k hk τ h0
      have a:=g k hk τ h0
      dsimp only
      split at a
      ·rw[a]at b
       simp only[leV,addV,zV]at *
       omega
      ·rw[a]at b
       exact b
     ·have b:=h.lic τ h0
      have a:=i τ h0
      dsimp only
      split at a
      ·rw[a]at b
       simp only[leV,addV,zV]at *
       omega
      ·rw[a]at b
       exact b
theorem Qxp{r:Jn}{now depth:Int}{qs l:List Job}(h:Q6 r)(hf:∀j∈l,VH qs j.id=some j):∀(i:Nat),i<=l.length->PlanV r now qs (Vg r now depth (l.take i))
 | 0,_=>⟨fun k _ τ _=>by
   show leV (addV _ zV) _
   rw[Qbv];exact Qc8 _,fun τ _=>by
   show leV (addV _ zV) _
   rw[Qbv];exact Qc8 _,fun y hy=>by cases hy⟩
 | i+1,hi=>by
  rw[X8 (by omega)]
  exact QnR h (QpK h i (by omega)) (Qxp h hf i (by omega)) (hf _ (QE (by omega)))

structure FitP (t:QX) (lic:V3) (now:Int) (xs:List Run):Prop where
 ok:∀x∈xs,runB now x=true/\Qc0 t x.job x.nodes
 node:∀k,k<t.nodes.length->∀τ,0<=τ->leV (demN now xs k τ) (nth t.nodes k).cap
 lic:∀τ,0<=τ->leV (demL now xs τ) lic
theorem Qdr(v:V3){τ:Int}(h:0<=τ):QN [⟨0,v⟩] τ=v:=by simp[QN,h]
theorem Qca{t:QX}{up:List Bool}{lic:V3}{k:Nat}(hk:k<t.nodes.length):nth (Jf t up lic).profs k=[⟨0,(nth t.nodes k).cap⟩]:=by
 simp[Jf,nth,List.getD,hk]
theorem Qmp{s:Qb}{r:Jn}(h:Jr s=some r):(∀k,k<s.topo.nodes.length->∀τ,0<=τ->(nth s.topo.nodes k).cap=addV (QN (nth r.profs k) τ) (demN s.now s.runs k τ))/\∀τ,0<=τ->s.lic=addV (QN r.lics τ) (demL s.now s.runs τ):=by
 unfold Jr at h
 split at h
 ·rename_i hb
  have hb:=pB_t.1 hb
  obtain⟨a,b⟩:=QfE hb.now.1 (WS hb.topo hb.up hb.lic) h
  refine⟨fun k hk τ h0=>?_,fun τ h0=>?_⟩
  ·rw[<-a k (by simpa [Jf] using hk) τ h0,Qca hk,Qdr _ h0]
  ·rw[<-b τ h0]
   exact(Qdr _ h0).symm
 ·cases h
theorem Quc{s:Qb}{r:Jn}(h:Jr s=some r):FitP s.topo s.lic s.now s.runs:=by
 obtain⟨a,b,_,hb,d⟩:=YO h
 obtain⟨e,f⟩:=Qmp h
 refine⟨d,fun k hk τ h0=>?_,fun τ h0=>?_⟩
 ·have c:=Y2 (Wa (a.profs k (by rw[a.num,b];exact hk)) τ)
  rw[e k hk τ h0]
  simp only[leV,addV,zV]at *
  omega
 ·have c:=Y2 (Wa a.lics τ)
  rw[f τ h0]
  simp only[leV,addV,zV]at *
  omega
theorem Qp9{s:Qb}(hb:Qfs s)(hl:s.runs.length<=60)(hf:FitP s.topo s.lic s.now s.runs):(Jr s).isSome=true:=by
 unfold Jr
 rw[if_pos (pB_t.2 hb)]
 refine QeP hb.now.1 (WS hb.topo hb.up hb.lic) ⟨fun k hk=>?_,?_⟩ hf.ok (fun k hk τ h0=>?_) (fun τ h0=>?_)
 ·have a:k<s.topo.nodes.length:=by simpa [Jf] using hk
  rw[Qca a,XaF]
  omega
 ·show[_].length+_<=200
  rw[XaF]
  omega
 ·have a:k<s.topo.nodes.length:=by simpa [Jf] using hk
  rw[Qca a,Qdr _ h0]
  exact hf.node k a τ h0
 ·show leV _ (QN [⟨0,s.lic⟩] τ)
  rw[Qdr _ h0]
  exact hf.lic τ h0
theorem QwA{t:QX}{lic:V3}{now now':Int}{xs ys:List Run}(h:FitP t lic now xs)(hs:ys.Sublist xs)(hn:now<=now')(hr:∀y∈ys,now'+1<=y.at'+y.job.wall):FitP t lic now' ys:=by
 have a:∀x∈xs,Qm x.job=true:=fun x hx=>(QcS.1 (h.ok x hx).1).1
 refine⟨fun y hy=>?_,fun k hk τ h0=>Qjo (Qsh hs hn a k τ) (h.node k hk τ h0),fun τ h0=>Qjo (Qtk hs hn a τ) (h.lic τ h0)⟩
 obtain⟨d,e⟩:=h.ok y (hs.subset hy)
 obtain⟨b,b2,b3,c⟩:=QcS.1 d
 exact⟨QcS.2 ⟨b,by omega,hr y hy,c⟩,e⟩
theorem Qiu{a b:Int}(h:a≠b):∀(l:List Job),VH (outJ l a) b=VH l b
 | []=>rfl
 | x::l=>by
  have ih:=Qiu h l
  unfold VH outJ at *
  rw[Xa7]
  by_cases hx:x.id=a
  ·rw[if_neg (by simp[hx]),ih,List.find?_cons_of_neg (by simp[hx,h])]
  ·rw[if_pos (by simp[hx])]
   by_cases hb:x.id=b
   ·rw[List.find?_cons_of_pos (by simp[hb]),List.find?_cons_of_pos (by simp[hb])]
   ·rw[List.find?_cons_of_neg (by simp[hb]),List.find?_cons_of_neg (by simp[hb]),ih]
theorem Qmk{now:Int}:∀{hs:List JL} {qs:List Job} {rs:List Run},(hs.map JL.id).Nodup->(runF now qs rs hs).2=rs++newR now qs hs
 | [],qs,rs,_=>by simp[runF,newR]
 | h::hs,qs,rs,hn=>by
  rw[Xas,XaQ]at hn
  rw[show runF now qs rs (h::hs)=runF now (outJ qs h.id) (rs++[⟨(VH qs h.id).getD default,now,h.nodes⟩]) hs from rfl,Qmk hn.2]
  rw[Xao]
  congr 1
  unfold newR
  rw[Xas,XbB]
  congr 1
  refine List.map_congr_left fun x hx=>?_
  rw[Qiu]
  intro e
  exact hn.1 (Xaf.2 ⟨x,hx,e.symm⟩)
theorem Qnb{l:List Job}(h:Jg l){j:Job}(hj:j∈l):VH l j.id=some j:=by
 obtain⟨x,d⟩:=Qic (List.mem_map_of_mem (f:=Job.id) hj)
 obtain⟨e,c⟩:=QfQ d
 rw[d]
 obtain⟨a,g,rfl⟩:=Jt e
 obtain⟨b,hb,rfl⟩:=Jt hj
 rcases Nat.lt_trichotomy a b with hab|hab|hab
 ·exact absurd c (h.diff b hb a hab)
 ·rw[hab]
 ·exact absurd c.symm (h.diff a g b hab)
theorem QnM{s:Qb}{r:Jn}(hr:Jr s=some r)(hq:Jg s.queue):(Js s).runs=s.runs++newR s.now s.queue (Vh s).1:=by
 refine Qmk ?_
 have a:=Qk0 hr
 rw[Zk hr]
 exact a.sub.nodup (((Xbz s.queue _).map Job.id).nodup_iff.2 hq.nodup)
theorem Qlr{s:Qb}(h:Qf s=true):Qf (Js s)=true:=by
 have f:=pB_t.1 h
 obtain⟨r,m⟩:=XaY.1 f.room
 obtain⟨h1,w,h3,hb,hx⟩:=YO m
 obtain⟨v1,v2⟩:=Qmp m
 have hf:=Quc m
 have z:Jg s.queue:=f.jobs.left
 have g:=Qd3 (s:=s) z
 have hQ:Jg (allJ (Js s)):=f.jobs.perm g
 have a:=QnM m z
 have o:=Qxp (qs:=s.queue) (now:=s.now) (depth:=s.depth) (l:=ordJ s.queue) h1 (fun j t=>Qnb z (Qgz.1 t)) _ (Xaj _)
 have n:=Qk0 m
 rw[Xal]at o
 rw[Zk m]at a
 generalize Vg r s.now s.depth (ordJ s.queue)=q at o n a
 have d:∀y∈newR s.now s.queue q.2.1,y.at'=s.now/\PutP s.topo s.up y.job s.now y.nodes:=fun y hy=>by
  obtain⟨hd,c,rfl⟩:=Xaf.1 hy
  obtain⟨j,t,b⟩:=o.put hd c
  rw[w,h3]at b
  simp only[t,XaJ]
  exact⟨trivial,b⟩
 have u:(Js s).runs.length<=60:=by
  have:=hQ.len
  unfold allJ at this
  rw[Xab,Xar]at this
  omega
 have p:FitP s.topo s.lic s.now (Js s).runs:=by
  rw[a]
  refine⟨fun y hy=>?_,fun k hk τ h0=>?_,fun τ h0=>?_⟩
  ·rcases Xag.1 hy with hy|hy
   ·exact hf.ok y hy
   ·obtain⟨e,b⟩:=d y hy
    have hw:=(YA b.ok).2
    refine⟨QcS.2 ⟨b.ok,?_,?_,?_⟩,b.diff⟩
    ·have:=hb.now;omega
    ·omega
    ·have:=b.wall;omega
  ·have x:k<r.profs.length:=by rw[h1.num,w];exact hk
   have a1:=o.node k x τ h0
   have v:=v1 k hk τ h0
   have b:=Y2 (Wa (n.room.profs k (by rw[n.room.num,n.topo.1,w];exact hk)) τ)
   rw[QmT,v]
   simp only[leV,addV,zV]at *
   omega
  ·have a1:=o.lic τ h0
   have v:=v2 τ h0
   have b:=Y2 (Wa n.room.lics τ)
   rw[QlH,v]
   simp only[leV,addV,zV]at *
   omega
 refine pB_t.2 ⟨Qp9 (s:=Js s) ⟨hb.topo,hb.up,hb.lic,hb.now⟩ u p,f.depth,hQ,f.ends,fun j t=>?_,f.endsOk⟩
 have c:=QE t
 rw[a]at c
 rcases Xag.1 c with c|c
 ·obtain⟨i,hi,e⟩:=Jt c
  rw[a,<-e]
  have:=f.runs i hi
  exact⟨this.up,this.asc,this.level⟩
 ·obtain⟨_,b⟩:=d _ c
  rw[a]
  exact⟨b.up,b.asc,b.level⟩

theorem Qlk{now now':Int}{e:QbO}(h:now<=now')(he:endB now e=true):endB now' e=true:=by
 simp only[endB,Xac,J4]at *
 omega
theorem Qpt{now id why:Int}(h1:1<=id/\id<=999)(h2:0<=now)(h3:1<=why/\why<=4):endB now ⟨id,now,why⟩=true:=by
 simp only[endB,Xac,J4]
 omega
theorem Qlx{j:Job}(h:Qm j=true):1<=j.id/\j.id<=999:=by
 simp only[Qm,Xac,J4]at h
 omega
theorem QgY{now why:Int}{p:Run->Bool}{l:List Run}(hj:∀x∈l,Qm x.job=true)(h2:0<=now)(h3:1<=why/\why<=4):∀e∈QR now why p l,endB now e=true:=fun e he=>by
 obtain⟨x,a,rfl⟩:=Xaf.1 he
 exact Qpt (Qlx (hj x (XaB.1 a).1)) h2 h3
theorem WI{s s1:Qb}(h:Qf s=true)(ht:s1.topo=s.topo)(hu:s1.up.length=s.up.length)(hl:s1.lic=s.lic)(hd:s1.depth=s.depth)(hn:s.now<=s1.now/\s1.now<=1000000000)(hs:s1.runs.Sublist s.runs)
  (hw:∀x∈s1.runs,s1.now+1<=x.at'+x.job.wall) (hup:∀x∈s1.runs,∀i,i<x.nodes.length->nth s1.up (nth x.nodes i).toNat=true) (hq:Jg (allJ s1)) (he:s1.ends.length<=300) (heo:∀e∈s1.ends,endB s1.now e=true):Qf s1=true:=by
 have c:=pB_t.1 h
 obtain⟨r,f⟩:=XaY.1 c.room
 obtain⟨h1,h2,h3,hb,hx⟩:=YO f
 have b:s1.runs.length<=60:=by
  have:=hq.len
  unfold allJ at this
  rw[Xab,Xar]at this
  omega
 refine pB_t.2 ⟨Qp9 ⟨by rw[ht];exact hb.topo,by rw[hu,ht];exact hb.up,by rw[hl];exact hb.lic,⟨Int.le_trans hb.now.1 hn.1,hn.2⟩⟩ b (by rw[ht,hl];exact QwA (Quc f) hs hn.1 hw),by rw[hd];exact c.depth,hq,he,fun j hj=>?_,fun j hj=>heo _ (QE hj)⟩
 have d:=QE hj
 obtain⟨i,g,e⟩:=Jt (hs.subset d)
 have:=c.runs i g
 rw[e]at this
 exact⟨hup _ d,this.asc,by rw[ht];exact this.level⟩
structure VP (s:Qb):Prop where
 now:0<=s.now/\s.now<=1000000000
 jobs:Jg (allJ s)
 wall:∀x∈s.runs,s.now+1<=x.at'+x.job.wall
 ok:∀x∈s.runs,Qm x.job=true
 up:∀x∈s.runs,∀i,i<x.nodes.length->nth s.up (nth x.nodes i).toNat=true
 upl:s.up.length=s.topo.nodes.length
 rng:∀x∈s.runs,∀n∈x.nodes,0<=n/\n.toNat<s.up.length
 ends:s.ends.length<=300
 endsOk:∀e∈s.ends,endB s.now e=true
theorem Qkd{s:Qb}(h:Qf s=true):VP s:=by
 have a:=pB_t.1 h
 obtain⟨r,d⟩:=XaY.1 a.room
 obtain⟨h1,h2,h3,hb,c⟩:=YO d
 refine⟨hb.now,a.jobs,fun x hm=>(QcS.1 (c x hm).1).2.2.1,fun x hm=>(QcS.1 (c x hm).1).1,fun x hm=>?_,hb.up,fun x hm n hn=>by rw[hb.up];exact XZ (c x hm).2 n hn,a.ends,fun e he=>?_⟩
 ·obtain⟨i,b,rfl⟩:=Jt hm
  exact(a.runs i b).up
 ·obtain⟨i,b,rfl⟩:=Jt he
  exact a.endsOk i b
theorem Qv8{s:Qb}{j:Job}(h:Qf s=true)(hj:Qm j=true)(hn:¬(allJ s).any (fun x=>x.id==j.id)=true)(hl:¬60<=(allJ s).length):Qf (subm s j)=true:=by
 have a:=Qkd h
 have c:(allJ (subm s j)).Perm (j::allJ s):=by
  show((s.queue++[j])++s.runs.map Run.job).Perm (j::(s.queue++s.runs.map Run.job))
  rw[Xao]
  exact Xcu
 refine WI h rfl rfl rfl rfl ⟨Xbf _,a.now.2⟩ (Xbv _) a.wall a.up ?_ a.ends a.endsOk
 have d:Jg (j::allJ s):=QeV (by rw[Xap];omega) (fun x b=>by
  rcases Xai.1 b with rfl|b
  ·exact hj
  ·exact a.jobs.ok x b) (by
  rw[Xas,XaQ]
  refine⟨fun hm=>hn ?_,a.jobs.nodup⟩
  obtain⟨x,b,e⟩:=Xaf.1 hm
  rw[XaV]
  exact⟨x,b,by rw[beq_iff_eq];exact e⟩)
 exact d.perm c
theorem Y9{p:Run->Bool}{l:List Run}:(JU p l).Sublist l:=XaC
theorem Qdj{now now':Int}{l m:List QbO}(h:now<=now')(hl:∀e∈l,endB now e=true)(hm:∀e∈m,endB now' e=true):∀e∈l++m,endB now' e=true:=fun e he=>by
 rcases Xag.1 he with he|he
 ·exact Qlk h (hl e he)
 ·exact hm e he
theorem Qvf{s:Qb}{id why:Int}(h:Qf s=true)(hw:why=2\/why=3)(hl:(finR s id why).ends.length<=300):Qf (finR s id why)=true:=by
 have a:=Qkd h
 refine WI h rfl rfl rfl rfl ⟨Xbf _,a.now.2⟩ Y9 (fun x hx=>a.wall x (Y9.subset hx)) (fun x hx=>a.up x (Y9.subset hx)) (a.jobs.sub ?_) hl (Qdj (Xbf _) a.endsOk (QgY a.ok a.now.1 (by omega)))
 exact XbY (Xbv _) (Y9.map _)
theorem Qwq{s:Qb}{id why:Int}(h:Qf s=true)(hw:why=2\/why=3)(hq:s.queue.any (fun x=>x.id==id)=true)(hl:(finQ s id why).ends.length<=300):Qf (finQ s id why)=true:=by
 have a:=Qkd h
 refine WI h rfl rfl rfl rfl ⟨Xbf _,a.now.2⟩ (Xbv _) a.wall a.up (a.jobs.sub ?_) hl (Qdj (Xbf _) a.endsOk fun e he=>?_)
 ·exact XbY XaC (Xbv _)
 ·obtain rfl:=XaH.1 he
  obtain⟨x,b,e⟩:=XaV.1 hq
  rw[beq_iff_eq]at e
  refine Qpt ?_ a.now.1 (by omega)
  rw[<-e]
  exact Qlx (a.jobs.ok x (Xat _ b))
theorem Qja{p:Run->Bool}:∀(l:List Run),(YR p l++(JU p l).map Run.job).Perm (l.map Run.job)
 | []=>Xby _
 | x::l=>by
  have ih:=Qja (p:=p) l
  unfold YR JU at *
  rw[Xa7,Xa7]
  cases hx:p x with
  | true=>
   simp only[Bool.not_true,XaT,if_false,if_true,Xas,Xbp]
   exact ih.cons _
  | false=>
   simp only[Bool.not_false,XaT,if_false,if_true,Xas]
   exact Xcu.trans (ih.cons _)
theorem QlG{l:List Bool}{i j:Nat}{x:Bool}(h:i<l.length):nth (l.set i x) j=if i=j then x else nth l j:=Qb0 h
theorem Qsy{s:Qb}{n:Int}(h:Qf s=true)(hn:0<=n/\n<s.up.length)(hl:(fail1 s n).ends.length<=300):Qf (fail1 s n)=true:=by
 have a:=Qkd h
 refine WI h rfl (by simp[fail1]) rfl rfl ⟨Int.le_refl _,a.now.2⟩ Y9 (fun x hx=>a.wall x (Y9.subset hx)) (fun x hx i hi=>?_) (a.jobs.perm ?_) hl (Qdj (Int.le_refl _) a.endsOk (QgY a.ok a.now.1 (by omega)))
 ·show nth (s.up.set n.toNat false) _=true
  have c:=(XaB.1 hx).2
  have b:nth x.nodes i∈x.nodes:=QE hi
  have hr:=a.rng x (Y9.subset hx) _ b
  rw[QlG (by omega),if_neg]
  ·exact a.up x (Y9.subset hx) i hi
  ·intro e
   have d:nth x.nodes i=n:=by omega
   rw[d]at b
   have f:J7 n x=true:=Va.2 b
   rw[f]at c
   cases c
 ·show((s.queue++YR (J7 n) s.runs)++(JU (J7 n) s.runs).map Run.job).Perm (s.queue++s.runs.map Run.job)
  rw[Xao]
  exact(Qja s.runs).append_left _
theorem Qvq{s:Qb}{n:Int}(h:Qf s=true)(hn:0<=n/\n<s.topo.nodes.length):Qf (resu s n)=true:=by
 have a:=Qkd h
 refine WI h rfl (by simp[resu]) rfl rfl ⟨Int.le_refl _,a.now.2⟩ (List.Sublist.refl _) a.wall (fun x hx i hi=>?_) a.jobs a.ends a.endsOk
 show nth (s.up.set n.toNat true) _=true
 rw[QlG (by rw[a.upl];omega)]
 split
 ·rfl
 ·exact a.up x hx i hi
theorem QvV{s:Qb}{v:V3}(h:Qf s=true)(hr:(Jr (resz s v)).isSome=true):Qf (resz s v)=true:=by
 have a:=pB_t.1 h
 exact pB_t.2 ⟨hr,a.depth,a.jobs,a.ends,fun j hj=>⟨(a.runs j hj).up,(a.runs j hj).asc,(a.runs j hj).level⟩,a.endsOk⟩
theorem QhN:∀{l:List Run} {m:Int},(∀r∈l,0<=r.at'+r.job.wall)->(0<=m->0<=l.foldl VU m/\l.foldl VU m<=m)/\∀r∈l,0<=l.foldl VU m/\l.foldl VU m<=r.at'+r.job.wall
 | [],m,_=>⟨fun h=>⟨h,Xbf _⟩,fun r hr=>by cases hr⟩
 | x::l,m,h=>by
  have h0:=h x Xaa
  obtain⟨h1,h2⟩:=QhN (l:=l) (m:=VU m x) fun r hr=>h r (Xad _ hr)
  have hx:0<=VU m x/\VU m x<=x.at'+x.job.wall/\(0<=m->VU m x<=m):=by
   unfold VU
   split
   ·exact⟨h0,Xbf _,fun h'=>by omega⟩
   ·omega
  obtain⟨g1,g2⟩:=h1 hx.1
  rw[Xa4]
  refine⟨fun hm=>⟨g1,by have:=hx.2.2 hm;omega⟩,fun r hr=>?_⟩
  rcases Xai.1 hr with rfl|hr
  ·exact⟨g1,by omega⟩
  ·exact h2 r hr
theorem Qr7:∀{l:List Run},0<=QH l->∃r∈l,r.at'+r.job.wall=QH l:=by
 have a:∀{l:List Run} {m:Int},0<=l.foldl VU m->l.foldl VU m=m\/∃r∈l,r.at'+r.job.wall=l.foldl VU m:=by
  intro l
  induction l with
  | nil=>exact fun _=>.inl rfl
  | cons x l ih=>
   intro m h
   rw[Xa4]at h ⊢
   rcases ih h with e|⟨r,hr,e⟩
   ·by_cases b:m<0\/x.at'+x.job.wall<m
    ·exact .inr ⟨x,Xaa,by rw[e];unfold VU;rw[if_pos b]⟩
    ·exact .inl (by rw[e];unfold VU;rw[if_neg b])
   ·exact .inr ⟨r,Xad _ hr,e⟩
 intro l h
 rcases a (l:=l) (m:=-1) h with e|h'
 ·rw[show l.foldl VU (-1)=QH l from rfl]at e
  omega
 ·exact h'
theorem Qvn{s:Qb}(h:Qf s=true)(hp:0<=QH s.runs)(ht:QH s.runs<=1000000000)(hl:(unt1 s (QH s.runs)).ends.length<=300):Qf (unt1 s (QH s.runs))=true/\s.now<=QH s.runs:=by
 have c:=Qkd h
 have a:=(QhN (l:=s.runs) (m:=-1) fun r hr=>by have:=c.wall r hr;have:=c.now;omega).2
 rw[show s.runs.foldl VU (-1)=QH s.runs from rfl]at a
 have d:=Qr7 (l:=s.runs) hp
 obtain⟨x,g,e⟩:=d
 have b:s.now<=QH s.runs:=by have:=c.wall x g;omega
 refine⟨WI h rfl rfl rfl rfl ⟨b,ht⟩ Y9 (fun y hy=>?_) (fun y hy=>c.up y (Y9.subset hy)) (c.jobs.sub ?_) hl (Qdj b c.endsOk (QgY c.ok hp (by omega))),b⟩
 ·show QH s.runs+1<=_
  have f:=(XaB.1 hy).2
  have h2:=(a y (Y9.subset hy)).2
  unfold endP at f
  rw[Xa6,beq_eq_false_iff_ne]at f
  omega
 ·exact XbY (Xbv _) (Y9.map _)
theorem Qrn:∀(f:Nat) {s s':Qb} {t:Int},Qf s=true->s.now<=t->t<=1000000000->untG f s t=some s'->Qf s'=true/\s'.now=t/\s.ends.length<=s'.ends.length
 | 0,_,_,_,_,_,_,h=>by cases h
 | f+1,s,s',t,hs,hn,ht,h=>by
  have hv:=Qkd hs
  unfold untG at h
  split at h
  ·rename_i hc
   injection h with h
   subst h
   have hmin:=(QhN (l:=s.runs) (m:=-1) fun r hr=>by have:=hv.wall r hr;have:=hv.now;omega).2
   rw[show s.runs.foldl VU (-1)=QH s.runs from rfl]at hmin
   refine⟨WI hs rfl rfl rfl rfl ⟨hn,ht⟩ (Xbv _) (fun x hx=>?_) hv.up hv.jobs hv.ends (fun e he=>Qlk hn (hv.endsOk e he)),rfl,Xaj _⟩
   have:=hmin x hx
   show t+1<=_
   omega
  ·rename_i hc
   split at h
   ·cases h
   ·rename_i h6
    obtain⟨g1,g2⟩:=Qvn hs (by omega) (by omega) (by omega)
    obtain⟨k1,k2,k3⟩:=Qrn f (Qlr g1) (show(unt1 s (QH s.runs)).now<=t by show QH s.runs<=t;omega) ht h
    refine⟨k1,k2,Xam ?_ k3⟩
    show s.ends.length<=(s.ends++_).length
    rw[Xab]
    omega

def OnP(s s':Qb):Prop:=Qf s'=true/\s.now<=s'.now/\s.ends.length<=s'.ends.length
theorem ZC{s s1:Qb}(h:Qf s1=true)(hn:s.now<=s1.now)(he:s.ends.length<=s1.ends.length):OnP s (Js s1):=⟨Qlr h,hn,he⟩
theorem QnW{s s':Qb}{j:Job}(h:(Yy s j).1=some s'):OnP s s':=by
 unfold Yy at h
 split at h
 ·rename_i a
  split at h
  ·cases h
  ·rename_i b
   split at h
   ·cases h
   ·rename_i c
    split at h
    ·injection h with h
     subst h
     exact ZC (Qv8 a.1 a.2 b c) (Xbf _) (Xaj _)
    ·cases h
 ·cases h
theorem Qk9{α:Type}{f:α->Int}{id:Int}:∀{l:List α},(l.map f).Nodup->(l.filter fun x=>f x==id).length<=1
 | [],_=>by simp
 | x::l,h=>by
  rw[Xas,XaQ]at h
  rw[Xa7]
  split
  ·rename_i hx
   rw[beq_iff_eq]at hx
   rw[Xb0.2 (fun y hy=>?_)]
   ·simp
   ·rw[beq_iff_eq]
    intro e
    exact h.1 (Xaf.2 ⟨y,hy,e.trans hx.symm⟩)
  ·exact Qk9 h.2
theorem Qtx{s:Qb}{id why:Int}(h:Jg (allJ s)):(QR s.now why (finP id) s.runs).length<=1:=by
 unfold QR
 rw[Xar]
 have a:=h.nodup
 rw[allJ,XaG,Xbg,XaR]at a
 exact Qk9 (f:=Job.id∘Run.job) a.2.1
theorem Qog{s s':Qb}{id why:Int}(h:(fnsO s id why).1=some s'):OnP s s':=by
 unfold fnsO at h
 split at h
 ·rename_i a
  have d:=pB_t.1 a.1
  split at h
  ·rename_i b
   split at h
   ·cases h
   ·rename_i c
    injection h with h
    subst h
    have f:=d.jobs
    have e:(finR s id why).ends.length<=300:=by
     show(s.ends++QR s.now why (finP id) s.runs).length<=300
     rw[Xab]
     have:=Qtx (s:=s) (id:=id) (why:=why) f
     omega
    refine ZC (Qvf a.1 a.2 e) (Xbf _) ?_
    show s.ends.length<=(s.ends++_).length
    rw[Xab]
    omega
  ·split at h
   ·rename_i b
    split at h
    ·cases h
    ·rename_i c
     injection h with h
     subst h
     refine ZC (Qwq a.1 a.2 b.1 ?_) (Xbf _) ?_
     ·show(s.ends++[_]).length<=300
      rw[Xab,XaF]
      omega
     ·show s.ends.length<=(s.ends++_).length
      rw[Xab]
      omega
   ·cases h
 ·cases h
theorem QtI{s s':Qb}{n:Int}(h:(Z3 s n).1=some s'):OnP s s':=by
 unfold Z3 at h
 split at h
 ·rename_i b
  split at h
  ·rename_i a
   split at h
   ·cases h
   ·rename_i h3
    injection h with h
    subst h
    refine ZC (Qsy b ⟨a.1,a.2.1⟩ (by show(s.ends++QR s.now 4 (J7 n) s.runs).length<=300;omega)) (Xbf _) ?_
    show s.ends.length<=(s.ends++_).length
    rw[Xab]
    omega
  ·cases h
 ·cases h
theorem Qn6{s s':Qb}{n:Int}(h:(Yw s n).1=some s'):OnP s s':=by
 unfold Yw at h
 split at h
 ·rename_i b
  split at h
  ·rename_i a
   injection h with h
   subst h
   exact ZC (Qvq b ⟨a.1,a.2.1⟩) (Xbf _) (Xaj _)
  ·cases h
 ·cases h
theorem Qm9{s s':Qb}{v:V3}(h:(Yx s v).1=some s'):OnP s s':=by
 unfold Yx at h
 split at h
 ·rename_i a
  split at h
  ·rename_i b
   injection h with h
   subst h
   exact ZC (QvV a.1 b) (Xbf _) (Xaj _)
  ·cases h
 ·cases h
theorem Qpm{s s':Qb}{t:Int}(h:untO s t=some s'):OnP s s':=by
 unfold untO at h
 split at h
 ·rename_i a
  obtain⟨b,g2,c⟩:=Qrn _ a.1 a.2.1 a.2.2 h
  exact⟨b,by omega,c⟩
 ·cases h
theorem QhW{s s':Qb}{c:Cmd}(h:(Jw s c).1=some s'):OnP s s':=by
 unfold Jw at h
 repeat' split at h
 ·exact QnW h
 ·exact Qog h
 ·exact Qog h
 ·exact QtI h
 ·exact Qn6 h
 ·exact Qm9 h
 ·exact Qpm h
 ·exact Qpm h
 ·cases h

theorem Qbb{x:Int}:∀b∈Q1 x,(b.toNat:Int)≠32:=fun b hb=>by
 by_cases h:0<=x/\x<=1000000000
 ·rw[ZO h]at hb
  have:=Xx 9 x.toNat (by omega) b hb
  omega
 ·rw[Qbj (by omega)]at hb
  cases hb
theorem Qq5{v:V3}:∀b∈Jj v,(b.toNat:Int)≠32:=fun b hb=>by
 cases h:Qh v with
 | false=>rw[X4 h]at hb;cases hb
 | true=>
  rw[VR h]at hb
  simp only[Xag,XaH]at hb
  rcases hb with (((hb|hb)|hb)|hb)|hb
  ·exact Qbb b hb
  ·subst hb;decide
  ·exact Qbb b hb
  ·subst hb;decide
  ·exact Qbb b hb
theorem Qb3{v:V3}(h:Qh v=true):YX (Jj v)=(v,true):=by
 have g:parts (Jj v) 47=[Q1 v.a,Q1 v.b,Q1 v.c]:=by rw[WD,Qjz h]
 obtain⟨d,e,f⟩:=Qpe h
 have i:tvV (Jj v)=v:=by
  unfold tvV
  rw[g]
  show V3.mk (QS (Q1 v.a)).1 (QS (Q1 v.b)).1 (QS (Q1 v.c)).1=v
  rw[QZ d,QZ e,QZ f]
 have j:tvOk (Jj v)=true:=by
  unfold tvOk
  rw[i,h,g]
  show(_&&(QS (Q1 v.a)).2&&(QS (Q1 v.b)).2&&(QS (Q1 v.c)).2&&true)=true
  rw[QZ d,QZ e,QZ f]
  rfl
 rw[ZM j,i]
theorem Qds{v:V3}(h:V9 v=true):v=vec0:=by
 cases v
 simp[V9]at h
 simp[vec0,h]
theorem Qlm{j:Job}(h:ZR j=true):j=job0:=by
 obtain⟨a,b,c,d,e,f,g⟩:=j
 simp only[ZR,Xac,beq_iff_eq]at h
 obtain⟨⟨⟨⟨⟨⟨i,k⟩,l⟩,m⟩,n⟩,o⟩,p⟩:=h
 rw[i,k,l,Qds m,Qds n,o,p]
 rfl
theorem Qbp{x y:List UInt8}(h:∀b∈x,(b.toNat:Int)≠32):split 32 (x++[32]++y)=x::split 32 y:=by
 rw[Xao]
 exact QbB (c:=32) (by decide) h
theorem QkW{k:Int}:∀b∈cmdW k,(b.toNat:Int)≠32:=by
 by_cases h:1<=k/\k<=7
 ·obtain rfl|rfl|rfl|rfl|rfl|rfl|rfl:k=1\/k=2\/k=3\/k=4\/k=5\/k=6\/k=7:=by omega
  all_goals decide
 ·rw[cmdW,if_neg h]
  exact fun b hb=>by cases hb
theorem Qvv{k:Int}(h:1<=k/\k<=7):((kd (cmdW k) 8:Nat):Int)=k:=by
 obtain rfl|rfl|rfl|rfl|rfl|rfl|rfl:k=1\/k=2\/k=3\/k=4\/k=5\/k=6\/k=7:=by omega
 all_goals decide
theorem QqV{j:Job}(h:Qm j=true):(1<=j.id/\j.id<=999)/\(0<=j.prio/\j.prio<=999)/\(1<=j.nodes/\j.nodes<=24)/\Qh j.need=true/\Qh j.lic=true/\(1<=j.wall/\j.wall<=1000000)/\(0<=j.level/\j.level<=24):=by
 unfold Qm at h
 simp only[Xac,J4]at h
 obtain⟨⟨⟨⟨⟨⟨a,b⟩,c⟩,d⟩,e⟩,f⟩,g⟩:=h
 exact⟨a,b,c,d,e,f,g⟩
theorem QsJ{j:Job}(h:Qm j=true):Qm1 (Qci j)=j:=by
 obtain⟨h1,h2,h3,a,b,h6,h7⟩:=QqV h
 unfold Qm1 Qci
 show Job.mk (QS (Q1 j.id)).1 (QS (Q1 j.prio)).1 (QS (Q1 j.nodes)).1 (YX (Jj j.need)).1 (YX (Jj j.lic)).1 (QS (Q1 j.wall)).1 (QS (Q1 j.level)).1=j
 rw[QZ (by omega),QZ (by omega),QZ (by omega),Qb3 a,Qb3 b,QZ (by omega),QZ (by omega)]
theorem QoV(j:Job):split 32 (jobT j)=Qci j:=by
 rw[QqE]
 have e:Q1 j.id++[32]++Q1 j.prio++[32]++Q1 j.nodes++[32]++Jj j.need++[32]++Jj j.lic++[32]++Q1 j.wall++[32]++Q1 j.level=Q1 j.id++[32]++(Q1 j.prio++[32]++(Q1 j.nodes++[32]++(Jj j.need++[32]++(Jj j.lic++[32]++(Q1 j.wall++[32]++Q1 j.level))))):=by simp
 rw[e,Qbp Qbb,Qbp Qbb,Qbp Qbb,Qbp Qq5,Qbp Qq5,Qbp Qbb,Zb Qbb]
 rfl
theorem Qtv{c:Cmd}(h:Jv c=true):QbW (QL c)=c:=by
 have k:=QjX h
 have e:=Qvv k
 by_cases f:c.kind=1
 ·have a:Qm c.job=true/\c.n=0/\V9 c.lic=true:=by
   unfold Jv at h
   rw[if_pos f]at h
   simpa [Bool.and_eq_true,and_assoc] using h
  have b:parts (QL c) 32=cmdW 1::Qci c.job:=by rw[QbA h f,JZ,WD,Qbp QkW,QoV]
  have d:kdS (QL c)=kd (cmdW 1) 8:=by unfold kdS;rw[b];rfl
  rw[f]at e
  rw[Qhr (by rw[d];exact e) (by rw[b];rfl),cJ,d,e,b]
  show Cmd.mk 1 (Qm1 (Qci c.job)) 0 vec0=c
  rw[QsJ a.1,<-Qds a.2.2,<-a.2.1,<-f]
 ·by_cases g:c.kind=6
  ·have a:ZR c.job=true/\c.n=0/\Qh c.lic=true:=by
    unfold Jv at h
    rw[if_neg f,if_neg (by omega),if_neg (by omega),if_pos g]at h
    simpa [Bool.and_eq_true,and_assoc] using h
   have b:parts (QL c) 32=[cmdW 6,Jj c.lic]:=by rw[Qa0 h g,JZ,WD,Qbp QkW,Zb Qq5]
   have d:kdS (QL c)=kd (cmdW 6) 8:=by unfold kdS;rw[b];rfl
   rw[g]at e
   rw[Qff (by rw[d];exact e) (by rw[b];rfl),cL,d,e,b]
   show Cmd.mk 6 job0 0 (YX (Jj c.lic)).1=c
   rw[Qb3 a.2.2,<-Qlm a.1,<-a.2.1,<-g]
  ·have a:ZR c.job=true/\V9 c.lic=true/\(0<=c.n/\c.n<=1000000000):=by
    unfold Jv at h
    rw[if_neg f]at h
    by_cases i:c.kind=2\/c.kind=3
    ·rw[if_pos i]at h
     simp only[Xac,J4]at h
     exact⟨h.1.1,h.1.2,by omega⟩
    ·rw[if_neg i]at h
     by_cases j:c.kind=4\/c.kind=5
     ·rw[if_pos j]at h
      simp only[Xac,J4]at h
      exact⟨h.1.1,h.1.2,by omega⟩
     ·rw[if_neg j,if_neg g,if_pos (by omega)]at h
      simp only[Xac,J4]at h
      exact⟨h.1.1,h.1.2,h.2⟩
   have b:parts (QL c) 32=[cmdW c.kind,Q1 c.n]:=by rw[Qbq h f g,JZ,WD,Qbp QkW,Zb Qbb]
   have d:kdS (QL c)=kd (cmdW c.kind) 8:=by unfold kdS;rw[b];rfl
   rw[QeJ (by rw[d,e];exact g) (by rw[b];rfl),cN,d,e,b]
   show Cmd.mk c.kind job0 (QS (Q1 c.n)).1 vec0=c
   rw[QZ a.2.2,<-Qlm a.1,<-Qds a.2.1]
theorem Qn7{c:Cmd}(h:Jv c=true):¬QL c=[]:=fun e=>by
 have hk:=QjX h
 have:=congrArg List.length e
 revert this
 by_cases a:c.kind=1
 ·rw[QbA h a,JZ];simp
 ·by_cases b:c.kind=6
  ·rw[Qa0 h b,JZ];simp
  ·rw[Qbq h a b,JZ];simp
theorem QkE{c:Cmd}(h:Jv c=true):JX (QL c)=(c,true):=YS (Qtv h) (Qn7 h) rfl

theorem Qgi:∀{l m:List (List UInt8)} {s:Qb},repO s (l++m)=(repO s l).bind fun s'=>repO s' m
 | [],m,s=>rfl
 | r::l,m,s=>by
  rw[Xbp,repO,repO]
  by_cases ht:(JX r).2=true
  ·rw[if_pos ht,if_pos ht]
   cases ha:(Jw s (JX r).1).1 with
   | none=>rfl
   | some s1=>exact Qgi
  ·rw[if_neg ht,if_neg ht]
   rfl
theorem QrF:∀{l:List (List UInt8)} {s s':Qb},Qf s=true->repO s l=some s'->Qf s'=true
 | [],s,s',h,e=>by
  injection e with e
  exact e▸h
 | r::l,s,s',h,e=>by
  unfold repO at e
  split at e
  ·split at e
   ·cases e
   ·rename_i s1 h1
    exact QrF (QhW h1).1 e
  ·cases e
theorem QsK{s s':Qb}{b x:List UInt8}(h:ZI s (b++x)=some s'):∃s1,ZI s b=some s1:=by
 obtain⟨l,a⟩:=(Qo7 (QmR b x)).2
 unfold ZI at h ⊢
 rw[a,Qgi]at h
 cases c:repO s (Ja b).1 with
 | none=>rw[c]at h;cases h
 | some s1=>exact⟨s1,rfl⟩
theorem Qq8{s s':Qb}{c:Cmd}{k:Int}(h:Jw s c=(some s',k)):Jv c=true:=by
 cases a:Jv c with
 | true=>rfl
 | false=>
  rw[XR (fun h'=>by rw[a]at h';cases h'.1)]at h
  cases h
theorem Qlj{s:Qb}(h:YN s=true):Qf s=true:=(pB_t.1 h).ok
theorem Qh8{s:Qb}(h:Qf s=true):Z5 s s=true:=QoE h h rfl
theorem QoW{a b:Qb}(h:Z5 a b=true):a=b/\Qf a=true:=by
 unfold Z5 at h
 rw[Xac,Xac]at h
 exact⟨pB_t.1 h.2.2,h.1⟩
theorem QaS{c:Ctl}:Y8 c=true↔YN c.first=true/\jnOk c.jn=true/\ZI c.first c.jn.bytes=some c.state/\Qf c.state=true:=by
 unfold Y8
 rw[Xac,Xac]
 constructor
 ·rintro ⟨b,d,a⟩
  split at a
  ·cases a
  ·rename_i s g
   obtain⟨e,f⟩:=QoW a
   rw[g,<-e]
   exact⟨b,d,rfl,f⟩
 ·rintro ⟨b,d,a,f⟩
  rw[a]
  exact⟨b,d,Qh8 f⟩
theorem Qjc{c d:Ctl}{x:Cmd}(h:Y8 c=true)(ht:(JM c x).1=some d):d.first=c.first/\jnOk d.jn=true/\ZI c.first d.jn.bytes=some d.state/\Qf d.state=true/\(Ja d.jn.bytes).1=(Ja c.jn.bytes).1++[QL x]:=by
 obtain⟨s,a,f,rfl,_⟩:=Wk ht
 obtain⟨k1,k2,b,k4⟩:=QaS.1 h
 obtain⟨e,i⟩:=Qb4 f
 have g:=Qq8 a
 refine⟨rfl,i,?_,(QhW (c:=x) (s:=c.state) (by rw[a])).1,by rw[e]⟩
 unfold ZI at b ⊢
 dsimp only
 rw[e,Qgi,b]
 show repO c.state [QL x]=some s
 unfold repO
 rw[QkE g,if_pos rfl]
 dsimp only
 rw[a]
 rfl
theorem Qwu{d:Ctl}(h1:YN d.first=true)(h2:jnOk d.jn=true)(h3:ZI d.first d.jn.bytes=some d.state)(h4:Qf d.state=true):Y8 (XC d)=true:=QaS.2 ⟨h1,(QrT h2).1,h3,h4⟩
theorem Qs1{s s':Qb}{b:List UInt8}(h1:YN s=true)(h2:b.length<=40000)(h3:ZI s b=some s'):Y6 s b=(some ⟨s,s',Vj b⟩,0):=by
 unfold Y6
 rw[if_pos ⟨h1,h2⟩,h3]
theorem Qvs:Qak zC=true:=by
 unfold Qak
 rw[show pB (zC.first=zS)=true from pB_t.2 rfl,show pB (zC.state=zS)=true from pB_t.2 rfl]
 rfl
theorem Qpw{s s':Qb}{b:List UInt8}{cs:List Int}(h1:YN s=true)(h2:b.length<=40000)(h3:ZI s b=some s'):QK ⟨false,s,zC,b,cs⟩=true:=by
 unfold QK
 dsimp only
 rw[h1,Qvs,Qs1 h1 h2 h3]
 rfl
theorem QtM{s:Qb}{c:Ctl}{cs:List Int}(h1:YN s=true)(h2:Y8 c=true)(h3:c.first=s):QK ⟨true,s,c,[],cs⟩=true:=by
 unfold QK
 dsimp only
 rw[h1,h2,h3,Qh8 (Qlj h1)]
 rfl
theorem Qu1{w:Wld}{x:Vf}(hw:QK w=true):QK (J3 w x)=true:=by
 obtain⟨z,first,f,bytes,g⟩:=w
 have a:YN first=true:=by
  unfold QK at hw
  rw[Xac]at hw
  exact hw.1
 cases z with
 | true=>
  have b:=Qg8 hw rfl
  have u:f.first=first/\bytes=[]:=by
   unfold QK at hw
   simp only[Xac,decide_eq_true_eq]at hw
   exact⟨(QoW hw.2.2.1).1,Xbl.1 hw.2.2.2⟩
  obtain⟨i,rfl⟩:=u
  dsimp only at b
  obtain⟨k1,v,s,k4⟩:=QaS.1 b
  have o:=(VY.1 v).1
  unfold J3
  rw[if_pos rfl]
  split
  ·dsimp only
   cases q:(JM f x.cmd).1 with
   | none=>exact QtM a b i
   | some d=>
    obtain⟨k,n,l,r,_⟩:=Qjc b q
    rw[<-k]at l
    exact QtM a (Qwu (by rw[k,i];exact a) n l r) (by show d.first=first;rw[k,i])
  ·split
   ·dsimp only
    cases q:(JM f x.cmd).1 with
    | none=>exact QtM a b i
    | some d=>
     obtain⟨k,n,l,r,_⟩:=Qjc b q
     have p:=(VY.1 n).1
     have m:ZI f.first (d.jn.bytes.take (W9 d.jn x.keep)++d.jn.bytes.drop (W9 d.jn x.keep))=some d.state:=by rw[XaK];exact l
     obtain⟨s1,j⟩:=QsK m
     rw[i]at j
     exact Qpw a (Xam (Xb9 _ _) p) j
   ·split
    ·rw[i]at s
     exact Qpw a o s
    ·exact hw
 | false=>
  unfold J3
  rw[if_neg (fun h=>by cases h)]
  split
  ·obtain⟨c,e⟩:=Qcl hw rfl
   dsimp only at e ⊢
   rw[e]
   unfold Y6 at e
   split at e
   ·rename_i t
    split at e
    ·cases e
    ·rename_i y m
     injection e with e _
     injection e with e
     subst e
     show QK ⟨true,first,⟨first,y,Vj bytes⟩,[],g⟩=true
     exact QtM a (QaS.2 ⟨a,QoJ t.2,by rw[Qjs];exact m,QrF (Qlj a) m⟩) rfl
   ·cases e
  ·exact hw
end
end Go.Proofs.YtkdniahincpmaaaGreat
