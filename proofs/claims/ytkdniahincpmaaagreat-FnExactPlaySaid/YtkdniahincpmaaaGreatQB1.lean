/-
  General lemmas of this claim, over any program: how a law's post follows from 'it returns true and old memory is as it was'; how arguments are opened; a slice read as a list of cells; a drawn region whose calls may make memory.
-/
import Derived.WalkKit
import Derived.ProofKit
import Derived.Deep.Slices
import Derived.Deep.QuietTactic
import Derived.BigQuiet
import Derived.Lib.Hide
import Derived.OpenShut
import Derived.Deep.MidRow
import Derived.Conc.MuLone
set_option maxRecDepth 100000
set_option maxHeartbeats 16000000
namespace Go.Proofs.YtkdniahincpmaaaGreat
open Go Go.RowKit Go.ChangeShapes Go.WideShapes
abbrev Xaa:=@List.mem_cons_self
abbrev Xab:=@List.length_append
abbrev Xac:=@Bool.and_eq_true
abbrev Xad:=@List.mem_cons_of_mem
abbrev Xae:=@Nat.zero_le
abbrev Xaf:=@List.mem_map
abbrev Xag:=@List.mem_append
abbrev Xah:=@List.length_take
abbrev Xai:=@List.mem_cons
abbrev Xaj:=@Nat.le_refl
abbrev Xak:=@Option.some.injEq
abbrev Xal:=@List.take_length
abbrev Xam:=@Nat.le_trans
abbrev Xan:=@Bool.eq_iff_iff
abbrev Xao:=@List.append_assoc
abbrev Xap:=@List.length_cons
abbrev Xaq:=@Nat.not_lt_zero
abbrev Xar:=@List.length_map
abbrev Xas:=@List.map_cons
abbrev Xat:=@List.mem_append_left
abbrev Xau:=@List.pairwise_cons
abbrev Xav:=@List.mem_append_right
abbrev Xaw:=@List.length_set
abbrev Xax:=@Array.length_toList
abbrev Xay:=@List.take_of_length_le
abbrev Xaz:=@List.eq_nil_of_length_eq_zero
abbrev XaA:=@List.take_succ_eq_append_getElem
abbrev XaB:=@List.mem_filter
abbrev XaC:=@List.filter_sublist
abbrev XaD:=@List.all_eq_true
abbrev XaE:=@List.mem_of_mem_take
abbrev XaF:=@List.length_singleton
abbrev XaG:=@List.map_append
abbrev XaH:=@List.mem_singleton
abbrev XaI:=@Nat.mul_le_mul_right
abbrev XaJ:=@Option.getD_some
abbrev XaK:=@List.take_append_drop
abbrev XaL:=@Nat.le_of_ble_eq_true
abbrev XaM:=@List.mem_of_mem_drop
abbrev XaN:=@List.foldl_append
abbrev XaO:=@Nat.lt_of_lt_of_le
abbrev XaP:=@List.length_drop
abbrev XaQ:=@List.nodup_cons
abbrev XaR:=@List.map_map
abbrev XaS:=@List.length_nil
abbrev XaT:=@Bool.false_eq_true
abbrev XaU:=@Nat.add_mul
abbrev XaV:=@List.any_eq_true
abbrev XaW:=@Option.map_some
abbrev XaX:=@List.Pairwise.map
abbrev XaY:=@Option.isSome_iff_exists
abbrev XaZ:=@Nat.zero_add
abbrev Xa0:=@List.map_replicate
abbrev Xa1:=@List.Pairwise.sublist
abbrev Xa2:=@List.length_filter_le
abbrev Xa3:=@List.append_nil
abbrev Xa4:=@List.foldl_cons
abbrev Xa5:=@List.filter_append
abbrev Xa6:=@Bool.not_eq_true'
abbrev Xa7:=@List.filter_cons
abbrev Xa8:=@List.drop_eq_getElem_cons
abbrev Xa9:=@List.pairwise_iff_getElem
abbrev Xba:=@List.nil_append
abbrev Xbb:=@List.drop_eq_nil_of_le
abbrev Xbc:=@Option.bind_some
abbrev Xbd:=@List.length_pos_iff
abbrev Xbe:=@List.take_append_of_le_length
abbrev Xbf:=@Int.le_refl
abbrev Xbg:=@List.nodup_append
abbrev Xbh:=@List.getElem_of_mem
abbrev Xbi:=@Int.toNat_of_nonneg
abbrev Xbj:=@List.map_nil
abbrev Xbk:=@List.pairwise_append
abbrev Xbl:=@List.length_eq_zero_iff
abbrev Xbm:=@List.getElem_mem
abbrev Xbn:=@List.pairwise_map
abbrev Xbo:=@Nat.zero_mul
abbrev Xbp:=@List.cons_append
abbrev Xbq:=@List.flatMap_cons
abbrev Xbr:=@List.mem_or_eq_of_mem_set
abbrev Xbs:=@List.eq_of_mem_replicate
abbrev Xbt:=@List.length_replicate
abbrev Xbu:=@List.map_toArray
abbrev Xbv:=@List.Sublist.refl
abbrev Xbw:=@List.Nodup.sublist
abbrev Xbx:=@List.set_cons_zero
abbrev Xby:=@List.Perm.refl
abbrev Xbz:=@List.mergeSort_perm
abbrev XbA:=@List.set_append_right
abbrev XbB:=@List.singleton_append
abbrev XbC:=@List.cons.injEq
abbrev XbD:=@Bool.true_and
abbrev XbE:=@Nat.sub_zero
abbrev XbF:=@Bool.not_eq_true
abbrev XbG:=@List.size_toArray
abbrev XbH:=@Nat.add_assoc
abbrev XbI:=@List.Sublist.map
abbrev XbJ:=@List.drop_append_of_le_length
abbrev XbK:=@Nat.add_zero
abbrev XbL:=@List.map_set
abbrev XbM:=@List.flatten_cons
abbrev XbN:=@List.getD_cons_zero
abbrev XbO:=@List.drop_zero
abbrev XbP:=@List.take_zero
abbrev XbQ:=@List.filter_map
abbrev XbR:=@List.range_succ
abbrev XbS:=@Int.toNat_natCast
abbrev XbT:=@Nat.lt_succ_iff_lt_or_eq
abbrev XbU:=@Nat.le_of_eq
abbrev XbV:=@Nat.one_mul
abbrev XbW:=@List.flatMap_append
abbrev XbX:=@List.map_take
abbrev XbY:=@List.Sublist.append
abbrev XbZ:=@List.mem_range
abbrev Xb0:=@List.filter_eq_nil_iff
abbrev Xb1:=@Nat.add_sub_cancel
abbrev Xb2:=@List.set_cons_succ
abbrev Xb3:=@List.take_length_add_append
abbrev Xb4:=@Nat.sub_self
abbrev Xb5:=@List.length_filter_lt_length_iff_exists
abbrev Xb6:=@List.take_add_one
abbrev Xb7:=@List.filter_congr
abbrev Xb8:=@List.perm_ext_iff_of_nodup
abbrev Xb9:=@List.length_take_le'
abbrev Xca:=@List.drop_drop
abbrev Xcb:=@List.take_left
abbrev Xcc:=@List.drop_left
abbrev Xcd:=@Bool.false_and
abbrev Xce:=@Option.getD_none
abbrev Xcf:=@List.not_mem_nil
abbrev Xcg:=@List.getElem_map
abbrev Xch:=@List.getD_cons_succ
abbrev Xci:=@Prod.mk.injEq
abbrev Xcj:=@Nat.le_mul_of_pos_right
abbrev Xck:=@List.pairwise_mergeSort
abbrev Xcl:=@Array.all_eq_true_iff_forall_mem
abbrev Xcm:=@Bool.and_false
abbrev Xcn:=@Nat.mul_comm
abbrev Xco:=@List.Perm.append_left
abbrev Xcp:=@List.length_mergeSort
abbrev Xcq:=@Nat.succ_pos
abbrev Xcr:=@Nat.div_eq_of_lt
abbrev Xcs:=@Nat.mod_eq_of_lt
abbrev Xct:=@Nat.le_of_not_lt
abbrev Xcu:=@List.perm_middle
abbrev Xcv:=@Nat.succ_le_succ
abbrev Xcw:=@Bool.or_eq_true
abbrev Xcx:=@List.flatten_append
abbrev Xcy:=@Option.map_none
abbrev Xcz:=@Nat.min_eq_left
abbrev XcA:=@Int.natCast_mul
abbrev XcB:=@List.take_succ_cons
abbrev XcC:=@List.filter_eq_self
abbrev XcD:=@List.take_take
abbrev XcE:=@List.any_eq_false
abbrev XcF:=@List.mapM_toArray
abbrev XcG:=@List.all_cons
abbrev XcH:=@List.map_drop
abbrev XcI:=@Nat.div_add_mod'
abbrev XcJ:=@List.Perm.append
abbrev XcK:=@List.getElem_inj
abbrev XcL:=@List.ext_getElem
abbrev XcM:=@List.drop_length
abbrev XcN:=@List.map_id

theorem QbC{H:Type}{enc:TypeId×Value->H}{P:Program}(hl:laidOutB P=true){W W':World}(hb:Below W.heap.size W W') :
  ∀(ts:List TypeId) (vs:List Value) (ds:List (DataW H)) (ps:List MemPlace),ts.all (fun t=>P.readableRec t&&decide (t<P.types.size))=true->
   DataW.TrodAll enc P W 0 (fun _=>true) true ts vs ds ps->(∀x∈ps,x.block<W.heap.size)->
   DataW.TrodAll enc P W' 0 (fun b=>decide (b<W.heap.size)) true ts vs ds ps
 | [],[],[],_,_,h,_=>h
 | [],[],_::_,_,_,h,_=>h.elim
 | [],_::_,_,_,_,h,_=>h.elim
 | _::_,[],_,_,_,h,_=>h.elim
 | _::_,_::_,[],_,_,h,_=>h.elim
 | t::ts,v::vs,d::ds,ps,hr,h,hlt=>by
  obtain⟨p,q,h1,h2,rfl⟩:=h
  simp only[XcG,Xac,decide_eq_true_eq]at hr
  exact⟨p,q,Below.trod hl hr.1.1 hr.1.2 h1 hb (fun x hx=>hlt x (by simp[hx])),
   QbC hl hb ts vs ds q (by simpa using hr.2) h2 (fun x hx=>hlt x (by simp[hx])),rfl⟩

theorem law_post{H:Type}{enc:TypeId×Value->H}{P:Program}{fn:Func}{s:ChangeSpec}{tb:TypeId}(hl:laidOutB P=true)(hvars:s.vars=[])(hrt:fn.resultTypes=#[tb])
  (hb:P.underlying tb=some .bool) (hpar:fn.params.toList.all (fun t=>P.readableRec t&&decide (t<P.types.size))=true)
  {W W':World} {args:Array Value} {ds gs:List (DataW H)} {before:List MemPlace} (hspec:s.fn H (ds++[])={ results:=[.lit (.bool true)],args:=ds })
  (hW:DataW.Whole enc P fn.params.toList s.vars false W args.toList ds gs before) (hbel:Below W.heap.size W W') :
  s.post enc P fn false true false false W args (.bool true) W':=by
 have a:=hW
 have b:∀p∈before,p.block<W.heap.size:=fun p hp=>hW.lt p hp
 obtain⟨p,q,d,c,rfl,_,_⟩:=hW
 rw[hvars]at c
 obtain⟨rfl,rfl⟩:=trodVars_none c
 simp only[Xa3]at a b
 refine⟨ds,[],p,[],p,[],a,?_,?_,?_,?_,fun h=>by cases h⟩
 ·rw[hspec,hrt]
  exact trodAll_mk1 (shut_bool hb true)
 ·rw[hspec]
  exact QbC hl hbel _ _ _ _ hpar d b
 ·rw[hspec,hvars]
  rfl
 ·exact hbel.frame _

def Ext(w w':World):Prop:=Below w.heap.size w w'
theorem Ext.refl(w:World):Ext w w:=Below.refl _ _
theorem Ext.trans{a b c:World}(h:Ext a b)(k:Ext b c):Ext a c:=Below.trans h (Below.mono k (Below.size h))
theorem Ext.drew(w:World):Ext w w.drew:=(Below.refl _ _).drew
theorem Ext.below{B:Nat}{a b c:World}(h:Below B a b)(k:Ext b c)(hB:B<=b.heap.size):Below B a c:=h.trans (k.mono hB)
theorem Ext.cell{w w':World}(h:Ext w w'){p:Addr}{v:Value}(hp:w.cell? p=some v):w'.cell? p=some v:=
 (Below.cell h (World.block_lt_of_cell? w p hp)).trans hp
theorem Ext.frozen{w w':World}(h:Ext w w'){p:Addr}{v:Value}(hp:w.cell? p=some v):w'.frozen? p=w.frozen? p:=
 Below.frozen h (World.block_lt_of_cell? w p hp)
theorem Ext.size{w w':World}(h:Ext w w'):w.heap.size<=w'.heap.size:=Below.size h

theorem Ext.at{w w':World}(h:Ext w w'){b:Nat}(hb:b<w.heap.size):(∀o,w'.cell? ⟨b,o,none⟩=w.cell? ⟨b,o,none⟩)/\∀o,w'.frozen? ⟨b,o,none⟩=w.frozen? ⟨b,o,none⟩:=
 ⟨fun o=>Below.cell (p:=⟨b,o,none⟩) h hb,fun o=>Below.frozen (p:=⟨b,o,none⟩) h hb⟩

def Qsp(P:Program):Nat->TypeId->Bool
 | 0,_=>false
 | n+1,t=>match P.underlying t with
  | some (.int .i64)=>true
  | some (.struct fs)=>((List.range (P.cellsOf t)).all fun j=>fs.toList.any fun f=>decide (f.offset<=j)&&decide (j<f.offset+P.cellsOf f.type))&&fs.toList.all fun f=>Qsp P n f.type
  | _=>false
def QyI(v:Value):Prop:=∃z:Int,v=.int .i64 z/\-9223372036854775808<=z/\z<=9223372036854775807
def Rd(w:World)(size:Nat)(A:Option Addr)(n cap:Nat)(xs:List Value):Prop:=
 xs.length=n*size/\n<=cap/\(cap<=9223372036854775807/\(A=none->cap=0))/\(0<n->∃b o,A=some ⟨b,o,none⟩/\∀j u,xs[j]?=some u->w.cell? ⟨b,o+j,none⟩=some u)
section
variable {w w':World} {size n cap:Nat} {A:Option Addr} {xs:List Value}
theorem Rd.ext(h:Rd w size A n cap xs)(hx:Ext w w'):Rd w' size A n cap xs:=
 ⟨h.1,h.2.1,h.2.2.1,fun hn=>by
  obtain⟨b,o,e,a⟩:=h.2.2.2 hn
  exact⟨b,o,e,fun j u hu=>hx.cell (a j u hu)⟩⟩
theorem Rd.nil_(w:World)(size:Nat):Rd w size none 0 0 []:=⟨by simp,Xaj _,⟨by omega,fun _=>rfl⟩,fun h=>absurd h (by omega)⟩
end

section flat
variable {α:Type} {enc:α->List Value} {m:Nat}
theorem Qj0(hm:∀a,(enc a).length=m)(l:List α):(l.flatMap enc).length=l.length*m:=by
 induction l with
 | nil=>simp
 | cons a l ih=>simp only[Xbq,Xab,Xap,ih,hm,XaU,XbV];omega
theorem QsN(hm:∀a,(enc a).length=m)(l:List α):∀(i:Nat) (a:α),l[i]?=some a->∀j,j<m->(l.flatMap enc)[i*m+j]?=(enc a)[j]?:=by
 induction l with
 | nil=>intro i a h;simp at h
 | cons b l ih=>
  intro i a h j c
  cases i with
  | zero=>
   simp only[List.getElem?_cons_zero,Xak]at h
   subst h
   rw[Xbq,Xbo,XaZ,List.getElem?_append_left (by rw[hm];exact c)]
  | succ i=>
   rw[Xbq,List.getElem?_append_right (by rw[hm,XaU];omega),hm,show(i+1)*m+j-m=i*m+j by rw[XaU];omega]
   exact ih i a (by simpa using h) j c
theorem Rd.length(hm:∀a,(enc a).length=m){w:World}{n cap:Nat}{A:Option Addr}{l:List α}(h:Rd w m A n cap (l.flatMap enc))(h0:0<m):l.length=n:=by
 have:=h.1;rw[Qj0 hm]at this
 exact Nat.eq_of_mul_eq_mul_right h0 this
end flat

def Own(w:World)(base:Nat)(e:TypeId)(size:Nat)(v:Value)(n:Nat)(xs:List Value):Prop:=w.ownsRow base e size v n xs
theorem Below.own{B base:Nat}{w w':World}{e:TypeId}{size n:Nat}{v:Value}{xs:List Value}(h:w.ownsRow base e size v n xs)(hb:Below B w w')(hB:w.heap.size<=B):w'.ownsRow base e size v n xs:=by
 refine⟨h.1,?_⟩
 rcases h.2 with h2|⟨g,cap,cur,hv,hg,hh,r⟩
 ·exact .inl h2
 ·exact .inr ⟨g,cap,cur,hv,hg,by rw[hb.block g (XaO (Array.getElem?_eq_some_iff.1 hh).1 hB)];exact hh,r⟩
theorem Ext.own{base:Nat}{w w':World}{e:TypeId}{size n:Nat}{v:Value}{xs:List Value}(hb:Ext w w')(h:w.ownsRow base e size v n xs):w'.ownsRow base e size v n xs:=Below.own h hb (Xaj _)
theorem Zj(z:Array Value)(n:Nat)(hz:0<z.size):(madeCells z (n*z.size)).toList=(List.replicate n z.toList).flatten:=by
 apply List.ext_getElem?
 intro i
 have b:(List.replicate n z.toList).flatten.length=n*z.size:=by simp
 by_cases e:i<n*z.size
 ·have f:i / z.size<n:=(Nat.div_lt_iff_lt_mul hz).2 e
  have c:i % z.size<z.size:=Nat.mod_lt _ hz
  have d:=QsN (enc:=fun(l:List Value)=>l.take z.size++List.replicate (z.size-l.length) default) (m:=z.size) (fun a=>by simp;omega) (List.replicate n z.toList) (i / z.size) z.toList (by simp[f]) (i % z.size) c
  have g:(List.replicate n z.toList).flatMap (fun(l:List Value)=>l.take z.size++List.replicate (z.size-l.length) default)=(List.replicate n z.toList).flatten:=by
   rw[List.flatMap_def]
   congr 1
   apply List.ext_getElem?
   intro j
   have k:List.take z.size z.toList=z.toList:=Xay (by simp)
   by_cases h:j<n <;> simp[h,k]
  rw[g,XcI]at d
  rw[d]
  have h5:¬(n*z.size<=i):=by omega
  simp[madeCells,e,c]
 ·rw[List.getElem?_eq_none (by simp[madeCells];omega),List.getElem?_eq_none (by rw[b];omega)]

theorem Qq2{w:World}{a:Addr}{u:Value}(h:w.cell? a=some u):a=⟨a.block,a.off,none⟩:=by
 obtain⟨b,o,c⟩:=a
 unfold World.cell? at h
 split at h
 ·cases c with
  | none=>rfl
  | some k=>simp at h
 ·cases h
theorem Yl(b o n:Nat):(⟨b,o,none⟩:Addr).add n=⟨b,o+n,none⟩:=by unfold Addr.add;split <;> simp_all
theorem Rd.max{w:World}{size n cap:Nat}{A:Option Addr}{xs:List Value}(h:Rd w size A n cap xs):(n:Int)<=9223372036854775807:=by
 have h1:=h.2.1;have h2:=h.2.2.1.1;omega

theorem Rd.lit(w:World)(cs:Array Value)(e:TypeId)(n size:Nat)(hn:cs.size=n*size)(hm:n<=9223372036854775807):Rd (w.alloc (.cells cs e)) size (some ⟨w.heap.size,0,none⟩) n n cs.toList:=
 ⟨by simpa using hn,Xaj _,⟨hm,fun e=>by cases e⟩,fun _=>⟨w.heap.size,0,rfl,fun j u hu=>by
  rw[XaZ,cell_of_row _ _ _ cs e (0,0) (heap_alloc_new w _)]
  simpa using hu⟩⟩
theorem Ext.alloc_(w:World)(o:Obj):Ext w (w.alloc o):=(Below.refl _ _).alloc (Xaj _) _
theorem QgM{P:Program}{id:Nat}{Q:Exit->Act->World->Prop}{a:Act}{w:World}{l:List Oper}(hm:P.follows .mixedOrders=true)(hB:Region.lexB .any l.toArray=true)
  (h:wpQuiet P l.toArray (Ext w) (fun a'=>∀w',Ext w w'->Q .normal a' w') l a):(Code.region id l.toArray true).wp P Q a w:=
 wp_region_quiet (C:=Ext w) hm hB (Ext.drew w) (by simpa using h)
end Go.Proofs.YtkdniahincpmaaaGreat
namespace Go.Proofs.YtkdniahincpmaaaGreat
open Go Go.RowKit
section

inductive D where
 | n (k:IntKind) (x:Int)
 | b (t:Bool)
 | s (l:List UInt8)
 | sl (es:List (List D))
 | un

mutual
def D.rep(w:World):D->Value->List Nat->Prop
 | .n k x,u,F=>u=.int k x/\F=[]
 | .b t,u,F=>u=.bool t/\F=[]
 | .s l,u,F=>u=.string ⟨l.toArray⟩/\F=[]
 | .un,u,F=>u.oneCell'=true/\F=[]
 | .sl es,u,F=>∃(A:Option Addr) (cap z:Nat) (us:List Value) (F':List Nat),u=.slice A es.length cap/\es.length<=cap/\cap<=maxLen/\(A=none->cap=0)/\
   (∀e∈es,e.length=z)/\repE w es us F'/\
   ((es=[]/\F=[])\/(es≠[]/\∃b o,A=some ⟨b,o,none⟩/\b<w.heap.size/\F=b::F'/\∀j v,us[j]?=some v->w.cell? ⟨b,o+j,none⟩=some v))
def repL(w:World):List D->List Value->List Nat->Prop
 | [],us,F=>us=[]/\F=[]
 | d::ds,us,F=>∃u us' F1 F2,us=u::us'/\F=F1++F2/\D.rep w d u F1/\repL w ds us' F2
def repE(w:World):List (List D)->List Value->List Nat->Prop
 | [],us,F=>us=[]/\F=[]
 | e::es,us,F=>∃u1 u2 F1 F2,us=u1++u2/\F=F1++F2/\repL w e u1 F1/\repE w es u2 F2
end

def Same(w w':World)(b:Nat):Prop:=w'.heap[b]?=w.heap[b]?
theorem Same.cell{w w':World}{b:Nat}(h:Same w w' b)(o:Nat):w'.cell? ⟨b,o,none⟩=w.cell? ⟨b,o,none⟩:=by
 simp only[World.cell?,show w'.heap[b]?=w.heap[b]? from h]

mutual
theorem D.rep_mono{w w':World}(hs:w.heap.size<=w'.heap.size):∀(d:D) (u:Value) (F:List Nat),d.rep w u F->(∀b∈F,Same w w' b)->d.rep w' u F
 | .n _ _,_,_,h,_=>h
 | .b _,_,_,h,_=>h
 | .s _,_,_,h,_=>h
 | .un,_,_,h,_=>h
 | .sl es,u,F,h,hF=>by
  obtain⟨A,cap,z,us,F',h1,h2,h3,h4,h5,h6,h7⟩:=h
  rcases h7 with ⟨h7,h8⟩|⟨h7,b,o,h8,h9,h10,h11⟩
  ·subst h7
   exact⟨A,cap,z,us,F',h1,h2,h3,h4,h5,h6,.inl ⟨rfl,h8⟩⟩
  ·subst h10
   refine⟨A,cap,z,us,F',h1,h2,h3,h4,h5,QI hs es us F' h6 (fun c hc=>hF c (Xad _ hc)),.inr ⟨h7,b,o,h8,XaO h9 hs,rfl,fun j v hj=>?_⟩⟩
   rw[(hF b Xaa).cell]
   exact h11 j v hj
theorem Vz{w w':World}(hs:w.heap.size<=w'.heap.size):∀(ds:List D) (us:List Value) (F:List Nat),repL w ds us F->(∀b∈F,Same w w' b)->repL w' ds us F
 | [],_,_,h,_=>h
 | d::ds,us,F,h,hF=>by
  obtain⟨u,us',F1,F2,h1,h2,h3,h4⟩:=h
  subst h2
  exact⟨u,us',F1,F2,h1,rfl,D.rep_mono hs d u F1 h3 (fun b hb=>hF b (Xat _ hb)),Vz hs ds us' F2 h4 (fun b hb=>hF b (Xav _ hb))⟩
theorem QI{w w':World}(hs:w.heap.size<=w'.heap.size):∀(es:List (List D)) (us:List Value) (F:List Nat),repE w es us F->(∀b∈F,Same w w' b)->repE w' es us F
 | [],_,_,h,_=>h
 | e::es,us,F,h,hF=>by
  obtain⟨u1,u2,F1,F2,h1,h2,h3,h4⟩:=h
  subst h2
  exact⟨u1,u2,F1,F2,h1,rfl,Vz hs e u1 F1 h3 (fun b hb=>hF b (Xat _ hb)),QI hs es u2 F2 h4 (fun b hb=>hF b (Xav _ hb))⟩
end

mutual
theorem D.rep_lt{w:World}:∀(d:D) (u:Value) (F:List Nat),d.rep w u F->∀b∈F,b<w.heap.size
 | .n _ _,_,_,h,b,hb=>by obtain⟨_,rfl⟩:=h;cases hb
 | .b _,_,_,h,b,hb=>by obtain⟨_,rfl⟩:=h;cases hb
 | .s _,_,_,h,b,hb=>by obtain⟨_,rfl⟩:=h;cases hb
 | .un,_,_,h,b,hb=>by obtain⟨_,rfl⟩:=h;cases hb
 | .sl es,u,F,h,c,hc=>by
  obtain⟨A,cap,z,us,F',h1,h2,h3,h4,h5,h6,h7⟩:=h
  rcases h7 with ⟨h7,h8⟩|⟨h7,b,o,h8,h9,h10,h11⟩
  ·subst h8;cases hc
  ·subst h10
   rcases Xai.1 hc with rfl|hc
   ·exact h9
   ·exact Qpp es us F' h6 c hc
theorem QrD{w:World}:∀(ds:List D) (us:List Value) (F:List Nat),repL w ds us F->∀b∈F,b<w.heap.size
 | [],_,_,h,b,hb=>by obtain⟨_,rfl⟩:=h;cases hb
 | d::ds,us,F,h,b,hb=>by
  obtain⟨u,us',F1,F2,h1,h2,h3,h4⟩:=h
  subst h2
  rcases Xag.1 hb with hb|hb
  ·exact D.rep_lt d u F1 h3 b hb
  ·exact QrD ds us' F2 h4 b hb
theorem Qpp{w:World}:∀(es:List (List D)) (us:List Value) (F:List Nat),repE w es us F->∀b∈F,b<w.heap.size
 | [],_,_,h,b,hb=>by obtain⟨_,rfl⟩:=h;cases hb
 | e::es,us,F,h,b,hb=>by
  obtain⟨u1,u2,F1,F2,h1,h2,h3,h4⟩:=h
  subst h2
  rcases Xag.1 hb with hb|hb
  ·exact QrD e u1 F1 h3 b hb
  ·exact Qpp es u2 F2 h4 b hb
end

theorem Qy{w:World}:∀{ds:List D} {us:List Value} {F:List Nat},repL w ds us F->us.length=ds.length
 | [],_,_,h=>by obtain⟨rfl,_⟩:=h;rfl
 | d::ds,us,F,h=>by
  obtain⟨u,us',F1,F2,rfl,h2,h3,h4⟩:=h
  simp[Qy h4]
theorem Jh{w:World}{z:Nat}:∀{es:List (List D)} {us:List Value} {F:List Nat},repE w es us F->(∀e∈es,e.length=z)->us.length=es.length*z
 | [],_,_,h,_=>by obtain⟨rfl,_⟩:=h;simp
 | e::es,us,F,h,hz=>by
  obtain⟨u1,u2,F1,F2,rfl,h2,h3,h4⟩:=h
  have h5:=Jh h4 (fun x hx=>hz x (Xad _ hx))
  have h6:=Qy h3
  rw[hz e Xaa]at h6
  simp only[Xab,Xap,h5,h6,XaU]
  omega
theorem JS{w:World}:∀{d1 d2:List D} {u1 u2:List Value} {F1 F2:List Nat},repL w d1 u1 F1->repL w d2 u2 F2->repL w (d1++d2) (u1++u2) (F1++F2)
 | [],d2,u1,u2,F1,F2,h1,h2=>by obtain⟨rfl,rfl⟩:=h1;exact h2
 | d::d1,d2,us,u2,F,F2,h1,h2=>by
  obtain⟨u,us',G1,G2,rfl,rfl,h3,h4⟩:=h1
  exact⟨u,us'++u2,G1,G2++F2,rfl,by simp,h3,JS h4 h2⟩
theorem Yk{w:World}:∀{e1 e2:List (List D)} {u1 u2:List Value} {F1 F2:List Nat},repE w e1 u1 F1->repE w e2 u2 F2->repE w (e1++e2) (u1++u2) (F1++F2)
 | [],e2,u1,u2,F1,F2,h1,h2=>by obtain⟨rfl,rfl⟩:=h1;exact h2
 | e::e1,e2,us,u2,F,F2,h1,h2=>by
  obtain⟨v1,v2,G1,G2,rfl,rfl,h3,h4⟩:=h1
  exact⟨v1,v2++u2,G1,G2++F2,by simp,by simp,h3,Yk h4 h2⟩
theorem Yq{w:World}:∀{e1 e2:List (List D)} {us:List Value} {F:List Nat},repE w (e1++e2) us F->∃u1 u2 F1 F2,us=u1++u2/\F=F1++F2/\repE w e1 u1 F1/\repE w e2 u2 F2
 | [],e2,us,F,h=>⟨[],us,[],F,rfl,rfl,⟨rfl,rfl⟩,h⟩
 | e::e1,e2,us,F,h=>by
  obtain⟨v1,v2,G1,G2,rfl,rfl,h3,h4⟩:=h
  obtain⟨u1,u2,F1,F2,rfl,rfl,h5,h6⟩:=Yq (e1:=e1) h4
  exact⟨v1++u1,u2,G1++F1,F2,by simp,by simp,⟨v1,u1,G1,F1,rfl,rfl,h3,h5⟩,h6⟩
theorem Qch{w:World}:∀{d1 d2:List D} {us:List Value} {F:List Nat},repL w (d1++d2) us F->∃u1 u2 F1 F2,us=u1++u2/\F=F1++F2/\repL w d1 u1 F1/\repL w d2 u2 F2
 | [],d2,us,F,h=>⟨[],us,[],F,rfl,rfl,⟨rfl,rfl⟩,h⟩
 | d::d1,d2,us,F,h=>by
  obtain⟨u,us',G1,G2,rfl,rfl,h3,h4⟩:=h
  obtain⟨u1,u2,F1,F2,rfl,rfl,h5,h6⟩:=Qch (d1:=d1) h4
  exact⟨u::u1,u2,G1++F1,F2,rfl,by simp,⟨u,u1,G1,F1,rfl,rfl,h3,h5⟩,h6⟩
theorem QgN{w:World}{z:Nat}{es:List (List D)}{us:List Value}{F:List Nat}(h:repE w es us F)(hz:∀e∈es,e.length=z){i:Nat}{e:List D}(hi:es[i]?=some e) :
  ∃vs G,repL w e vs G/\(∀b∈G,b∈F)/\∀j v,vs[j]?=some v->us[i*z+j]?=some v:=by
 obtain⟨d,m⟩:=List.getElem?_eq_some_iff.1 hi
 have a:es=es.take i++(e::es.drop (i+1)):=by
  rw[<-m,<-Xa8 d,XaK]
 rw[a]at h
 obtain⟨u1,u2,F1,F2,rfl,rfl,g,k⟩:=Yq h
 obtain⟨o,v2,G1,G2,rfl,rfl,l,h4⟩:=k
 have f:=Jh g (fun x hx=>hz x (XaE hx))
 have c:(es.take i).length=i:=by simp;omega
 rw[c]at f
 refine⟨o,G1,l,fun b hb=>Xav _ (Xat _ hb),fun j v hj=>?_⟩
 have n:=(List.getElem?_eq_some_iff.1 hj).1
 rw[List.getElem?_append_right (by omega),f,List.getElem?_append_left (by omega),<-hj]
 congr 1
 omega
theorem Qgo{w:World}:∀{ds:List D} {us:List Value} {F:List Nat},repL w ds us F->∀{i:Nat} {d:D},ds[i]?=some d->∃u G,us[i]?=some u/\d.rep w u G/\∀b∈G,b∈F
 | [],_,_,_,i,d,hi=>by simp at hi
 | d0::ds,us,F,h,i,d,hi=>by
  obtain⟨u,us',F1,F2,rfl,rfl,h3,h4⟩:=h
  cases i with
  | zero=>
   simp only[List.getElem?_cons_zero,Xak]at hi
   subst hi
   exact⟨u,F1,rfl,h3,fun b hb=>Xat _ hb⟩
  | succ i=>
   obtain⟨v,G,h5,h6,h7⟩:=Qgo h4 (i:=i) (by simpa using hi)
   exact⟨v,G,by simpa using h5,h6,fun b hb=>Xav _ (h7 b hb)⟩
theorem D.rep_one{w:World}{d:D}{u:Value}{F:List Nat}(h:d.rep w u F):u.oneCell'=true:=by
 cases d with
 | n k x=>obtain⟨rfl,_⟩:=h;rfl
 | b t=>obtain⟨rfl,_⟩:=h;rfl
 | s l=>obtain⟨rfl,_⟩:=h;rfl
 | un=>exact h.1
 | sl es=>obtain⟨A,a,z,us,F',rfl,_⟩:=h;rfl
theorem QlI{w:World}:∀{ds:List D} {us:List Value} {F:List Nat},repL w ds us F->∀u∈us,u.oneCell'=true
 | [],_,_,h,u,hu=>by obtain⟨rfl,_⟩:=h;cases hu
 | d::ds,us,F,h,u,hu=>by
  obtain⟨v,us',F1,F2,rfl,rfl,h3,h4⟩:=h
  rcases Xai.1 hu with rfl|hu
  ·exact D.rep_one h3
  ·exact QlI h4 u hu
theorem XB{w:World}:∀{es:List (List D)} {us:List Value} {F:List Nat},repE w es us F->∀u∈us,u.oneCell'=true
 | [],_,_,h,u,hu=>by obtain⟨rfl,_⟩:=h;cases hu
 | e::es,us,F,h,u,hu=>by
  obtain⟨u1,u2,F1,F2,rfl,rfl,h3,h4⟩:=h
  rcases Xag.1 hu with hu|hu
  ·exact QlI h3 u hu
  ·exact XB h4 u hu
def D.flat:D->Bool
 | .sl es=>es.isEmpty
 | _=>true
theorem D.flat_fs{w:World}{d:D}{u:Value}{F:List Nat}(h:d.rep w u F)(hf:d.flat=true):F=[]:=by
 cases d with
 | n k x=>exact h.2
 | b t=>exact h.2
 | s l=>exact h.2
 | un=>exact h.2
 | sl es=>
  obtain⟨A,a,z,us,F',h1,h2,h3,h4,h5,h6,c⟩:=h
  have e:es=[]:=by simpa [D.flat] using hf
  rcases c with ⟨_,h⟩|⟨h,_⟩
  ·exact h
  ·exact absurd e h
theorem JF{w:World}:∀{ds:List D} {us:List Value} {F:List Nat},repL w ds us F->ds.all D.flat=true->F=[]
 | [],_,_,h,_=>h.2
 | d::ds,us,F,h,hf=>by
  obtain⟨v,us',F1,F2,rfl,rfl,h3,h4⟩:=h
  simp only[XcG,Xac]at hf
  rw[D.flat_fs h3 hf.1,JF h4 hf.2]
  rfl
theorem YE{w:World}:∀{es:List (List D)} {us:List Value} {F:List Nat},repE w es us F->(∀e∈es,e.all D.flat=true)->F=[]
 | [],_,_,h,_=>h.2
 | e::es,us,F,h,hf=>by
  obtain⟨u1,u2,F1,F2,rfl,rfl,h3,h4⟩:=h
  rw[JF h3 (hf e Xaa),YE h4 (fun x hx=>hf x (Xad _ hx))]
  rfl
def subV(A:Option Addr)(c z i j:Nat):Value:=.slice (if c=i then A else A.map (·.add (i*z))) (j-i) (c-i)
theorem QqB{w:World}{es:List (List D)}{A:Option Addr}{n c z i j:Nat}{F:List Nat}(h1:(D.sl es).rep w (.slice A n c) F)(hz:∀e∈es,e.length=z)(hij:i<=j)(hj:j<=es.length):∃F',(D.sl ((es.take j).drop i)).rep w (subV A c z i j) F'/\∀b∈F',b∈F:=by
 obtain⟨A',r,z',us,F',s,h3,h4,t,h6,p,l⟩:=h1
 injection s with e1 e2 e3
 subst e1;subst e3
 have a:((es.take j).drop i).length=j-i:=by simp;omega
 have h:es=(es.take j).take i++((es.take j).drop i++es.drop j):=by rw[<-Xao,XaK,XaK]
 rw[h]at p
 obtain⟨u1,ac,F1,F23,rfl,rfl,y,k2⟩:=Yq p
 obtain⟨q,u3,F2,F3,rfl,rfl,m,k4⟩:=Yq k2
 have g:∀x∈(es.take j).drop i,x.length=z:=fun x hx=>hz x (XaE (XaM hx))
 have o:u1.length=i*z:=by
  have:=Jh y (fun x hx=>hz x (XaE (XaE hx)))
  rw[this]
  congr 1
  simp;omega
 unfold subV
 by_cases f:(es.take j).drop i=[]
 ·have:F2=[]:=by rw[f]at m;exact m.2
  subst this
  refine⟨[],⟨if c=i then A else A.map (·.add (i*z)),c-i,z,q,[],by rw[a],by rw[a];omega,by omega,fun e=>?_,g,m,.inl ⟨f,rfl⟩⟩,by simp⟩
  have u:A=none:=by
   split at e
   ·exact e
   ·simpa using e
  have:=t u
  omega
 ·have hij:i<j:=by
   rcases Nat.lt_or_ge i j with h'|h'
   ·exact h'
   ·exact absurd (Xaz (by rw[a];omega)) f
  rcases l with ⟨l,_⟩|⟨l,b,off,rfl,h10,h9,h11⟩
  ·subst l;simp at f
  ·rw[if_neg (by omega:¬c=i)]
   simp only[XaW,Yl]
   refine⟨b::F2,⟨_,c-i,z,q,F2,by rw[a],by rw[a];omega,by omega,(fun e=>by cases e),g,m,.inr ⟨f,b,off+i*z,rfl,h10,rfl,fun k v hk=>?_⟩⟩,fun d hd=>?_⟩
   ·rw[XbH]
    refine h11 _ _ ?_
    rw[List.getElem?_append_right (by omega),o,List.getElem?_append_left (by have:=(List.getElem?_eq_some_iff.1 hk).1;omega),<-hk]
    congr 1
    omega
   ·rw[h9]
    rcases Xai.1 hd with rfl|hd
    ·exact Xaa
    ·exact Xad _ (Xav _ (Xat _ hd))

inductive AV where
 | any
 | d (x:D)
 | nil
 | row (o:Nat)
 | ptr (o:Nat) (off:Nat)
 | pr (o:Nat) (i:Nat) (off:Nat)
 | pd (e:List D) (off:Nat)
 | agg (xs:List AV)
 | tup (xs:List AV)
 | clo (g:FuncId) (xs:List AV)
 | sub (o:Nat) (i j:Nat)
inductive AO where
 | row (e:TypeId) (es:List (List D)) (deep:Bool)
 | box (e:TypeId) (cs:List AV)
structure Ent where
 nm:Nat
 ao:AO
 val:Value
 fs:List Nat

def blk:Value->Option Nat
 | .slice (some a) _ _=>some a.block
 | .pointer (some a)=>some a.block
 | _=>none
def AO.isRow:AO->Bool
 | .row ..=>true
 | .box ..=>false
def AO.lens:AO->List Nat
 | .row _ es _=>es.map List.length
 | .box ..=>[]
def AO.deep:AO->Bool
 | .row _ _ dp=>dp
 | .box ..=>false
def Ent.hd(x:Ent)(b:Nat):Prop:=blk x.val=some b\/(x.ao.deep=true/\b∈x.fs)
def NstL(P:Program)(w:World)(ds:List D)(us:List Value):Prop:=∀(j:Nat) (es:List (List D)) (u:Value),ds[j]?=some (.sl es)->us[j]?=some u->es≠[]->
 ∃(e z:Nat) (vs:List Value),(P.info? e).map (·.size)=some z/\0<z/\(∀el∈es,el.length=z)/\w.ownsRow 0 e z u es.length vs
def Like(x y:Ent):Prop:=y.nm=x.nm/\y.val=x.val/\y.ao.isRow=x.ao.isRow/\y.ao.lens=x.ao.lens

mutual
def AV.shows(w:World)(en:List Ent)(I:Nat->Prop):AV->Value->Prop
 | .any,_=>True
 | .d x,u=>∃F,x.rep w u F/\∀b∈F,I b
 | .nil,u=>u=.slice none 0 0
 | .row o,u=>∃x∈en,x.nm=o/\x.ao.isRow=true/\u=x.val
 | .ptr o off,u=>∃x∈en,x.nm=o/\x.ao.isRow=false/\∃g,blk x.val=some g/\u=.pointer (some ⟨g,off,none⟩)
 | .pr o i off,u=>∃x∈en,x.nm=o/\x.ao.isRow=true/\∃g z,blk x.val=some g/\(∀l∈x.ao.lens,l=z)/\i<x.ao.lens.length/\u=.pointer (some ⟨g,i*z+off,none⟩)
 | .pd e off,u=>∃b o us F,u=.pointer (some ⟨b,o+off,none⟩)/\repL w e us F/\(∀j v,us[j]?=some v->w.cell? ⟨b,o+j,none⟩=some v)/\I b/\∀c∈F,I c
 | .agg xs,u=>∃us:List Value,u=.agg us.toArray/\Qn w en I xs us
 | .tup xs,u=>∃us:List Value,u=.tuple us.toArray/\Qn w en I xs us
 | .sub o i j,u=>∃x∈en,x.nm=o/\x.ao.isRow=true/\(i<=j/\j<=x.ao.lens.length)/\∃A n c z,x.val=.slice A n c/\(∀l∈x.ao.lens,l=z)/\u=subV A c z i j
 | .clo g xs,u=>∃us:List Value,u=.func (.func g) #[] us.toArray/\Qn w en I xs us
def Qn(w:World)(en:List Ent)(I:Nat->Prop):List AV->List Value->Prop
 | [],us=>us=[]
 | x::xs,us=>∃u us',us=u::us'/\x.shows w en I u/\Qn w en I xs us'
end
mutual
def AV.cut(p:Nat->Bool):AV->AV
 | .row o=>if p o then .row o else .any
 | .ptr o off=>if p o then .ptr o off else .any
 | .pr o i off=>if p o then .pr o i off else .any
 | .agg xs=>.agg (cutL p xs)
 | .tup xs=>.tup (cutL p xs)
 | .clo g xs=>.clo g (cutL p xs)
 | .sub o i j=>if p o then .sub o i j else .any
 | x=>x
def cutL(p:Nat->Bool):List AV->List AV
 | []=>[]
 | x::xs=>x.cut p::cutL p xs
end
mutual
theorem AV.cut_true:∀(x:AV),x.cut (fun _=>true)=x
 | .any=>rfl
 | .d _=>rfl
 | .nil=>rfl
 | .row _=>rfl
 | .ptr _ _=>rfl
 | .pr _ _ _=>rfl
 | .pd _ _=>rfl
 | .agg xs=>by simp only[AV.cut,Zm xs]
 | .tup xs=>by simp only[AV.cut,Zm xs]
 | .clo g xs=>by simp only[AV.cut,Zm xs]
 | .sub _ _ _=>rfl
theorem Zm:∀(xs:List AV),cutL (fun _=>true) xs=xs
 | []=>rfl
 | x::xs=>by simp only[cutL,AV.cut_true x,Zm xs]
end
def AO.cut(p:Nat->Bool):AO->AO
 | .box e cs=>.box e (cutL p cs)
 | x=>x
theorem AO.cut_true(x:AO):x.cut (fun _=>true)=x:=by
 cases x <;> simp[AO.cut,Zm]
theorem AO.cut_isRow(p:Nat->Bool)(x:AO):(x.cut p).isRow=x.isRow:=by cases x <;> rfl
theorem AO.cut_lens(p:Nat->Bool)(x:AO):(x.cut p).lens=x.lens:=by cases x <;> rfl
theorem AO.cut_deep(p:Nat->Bool)(x:AO):(x.cut p).deep=x.deep:=by cases x <;> rfl
def Ent.cut(p:Nat->Bool)(x:Ent):Ent:={ x with ao:=x.ao.cut p }

section mono
variable {w w':World} {en en':List Ent} {I I':Nat->Prop} {p:Nat->Bool}
mutual
theorem AV.shows_cut(hs:w.heap.size<=w'.heap.size)(hS:∀b,I b->Same w w' b)(hI:∀b,I b->I' b)(he:∀x∈en,p x.nm=true->∃y∈en',Like x y) :
  ∀(x:AV) (u:Value),x.shows w en I u->(x.cut p).shows w' en' I' u
 | .any,_,_=>trivial
 | .d x,u,h=>by
  obtain⟨F,h1,h2⟩:=h
  exact⟨F,D.rep_mono hs x u F h1 (fun b hb=>hS b (h2 b hb)),fun b hb=>hI b (h2 b hb)⟩
 | .nil,_,h=>h
 | .row o,u,h=>by
  obtain⟨x,hx,rfl,h1,h2⟩:=h
  simp only[AV.cut]
  split
  ·rename_i hp
   obtain⟨y,hy,l1,l2,l3,l4⟩:=he x hx hp
   exact⟨y,hy,l1,by rw[l3];exact h1,by rw[l2];exact h2⟩
  ·trivial
 | .ptr o off,u,h=>by
  obtain⟨x,hx,rfl,h1,g,h2,h3⟩:=h
  simp only[AV.cut]
  split
  ·rename_i hp
   obtain⟨y,hy,l1,l2,l3,l4⟩:=he x hx hp
   exact⟨y,hy,l1,by rw[l3];exact h1,g,by rw[l2];exact h2,h3⟩
  ·trivial
 | .pr o i off,u,h=>by
  obtain⟨x,hx,rfl,h1,g,z,h2,h3,h4,h5⟩:=h
  simp only[AV.cut]
  split
  ·rename_i hp
   obtain⟨y,hy,l1,l2,l3,l4⟩:=he x hx hp
   exact⟨y,hy,l1,by rw[l3];exact h1,g,z,by rw[l2];exact h2,by rw[l4];exact h3,by rw[l4];exact h4,h5⟩
  ·trivial
 | .sub o i j,u,h=>by
  obtain⟨x,hx,rfl,h1,h2,A,n,c,z,h3,h4,h5⟩:=h
  simp only[AV.cut]
  split
  ·rename_i hp
   obtain⟨y,hy,l1,l2,l3,l4⟩:=he x hx hp
   exact⟨y,hy,l1,by rw[l3];exact h1,by rw[l4];exact h2,A,n,c,z,by rw[l2];exact h3,by rw[l4];exact h4,h5⟩
  ·trivial
 | .pd e off,u,h=>by
  obtain⟨b,o,us,F,h1,h2,h3,h4,h5⟩:=h
  refine⟨b,o,us,F,h1,Vz hs e us F h2 (fun b hb=>hS b (h5 b hb)),fun j v hj=>?_,hI b h4,fun c hc=>hI c (h5 c hc)⟩
  rw[(hS b h4).cell]
  exact h3 j v hj
 | .agg xs,u,h=>by
  obtain⟨us,h1,h2⟩:=h
  exact⟨us,h1,Wl hs hS hI he xs us h2⟩
 | .tup xs,u,h=>by
  obtain⟨us,h1,h2⟩:=h
  exact⟨us,h1,Wl hs hS hI he xs us h2⟩
 | .clo g xs,u,h=>by
  obtain⟨us,h1,h2⟩:=h
  exact⟨us,h1,Wl hs hS hI he xs us h2⟩
theorem Wl(hs:w.heap.size<=w'.heap.size)(hS:∀b,I b->Same w w' b)(hI:∀b,I b->I' b)(he:∀x∈en,p x.nm=true->∃y∈en',Like x y) :
  ∀(xs:List AV) (us:List Value),Qn w en I xs us->Qn w' en' I' (cutL p xs) us
 | [],_,h=>h
 | x::xs,us,h=>by
  obtain⟨u,us',h1,h2,h3⟩:=h
  exact⟨u,us',h1,AV.shows_cut hs hS hI he x u h2,Wl hs hS hI he xs us' h3⟩
end
theorem AV.shows_mono(hs:w.heap.size<=w'.heap.size)(hS:∀b,I b->Same w w' b)(hI:∀b,I b->I' b)(he:∀x∈en,∃y∈en',Like x y){x:AV}{u:Value}(h:x.shows w en I u):x.shows w' en' I' u:=by
 have:=AV.shows_cut (p:=fun _=>true) hs hS hI (fun x hx _=>he x hx) x u h
 rwa [AV.cut_true]at this
theorem Qd4(hs:w.heap.size<=w'.heap.size)(hS:∀b,I b->Same w w' b)(hI:∀b,I b->I' b)(he:∀x∈en,∃y∈en',Like x y){xs:List AV}{us:List Value}(h:Qn w en I xs us):Qn w' en' I' xs us:=by
 have:=Wl (p:=fun _=>true) hs hS hI (fun x hx _=>he x hx) xs us h
 rwa [Zm]at this
end mono
theorem QD{w:World}{en:List Ent}{I:Nat->Prop}:∀{xs:List AV} {us:List Value},Qn w en I xs us->us.length=xs.length
 | [],us,h=>by rw[show us=[] from h];rfl
 | x::xs,us,h=>by obtain⟨u,us',rfl,_,h⟩:=h;simp[QD h]
theorem WF{w:World}{en:List Ent}{I:Nat->Prop}:∀{xs:List AV} {us:List Value},Qn w en I xs us->∀{i:Nat} {x:AV},xs[i]?=some x->∃u,us[i]?=some u/\x.shows w en I u
 | [],_,_,i,x,hi=>by simp at hi
 | x0::xs,us,h,i,x,hi=>by
  obtain⟨u,us',rfl,h1,h2⟩:=h
  cases i with
  | zero=>simp only[List.getElem?_cons_zero,Xak]at hi;subst hi;exact⟨u,rfl,h1⟩
  | succ i=>
   obtain⟨v,h3,h4⟩:=WF h2 (i:=i) (by simpa using hi)
   exact⟨v,by simpa using h3,h4⟩
theorem Yg{w:World}{en:List Ent}{I:Nat->Prop}:∀{xs ys:List AV} {us vs:List Value},Qn w en I xs us->Qn w en I ys vs->Qn w en I (xs++ys) (us++vs)
 | [],ys,us,vs,h,h'=>by rw[show us=[] from h];exact h'
 | x::xs,ys,us,vs,h,h'=>by
  obtain⟨u,us',rfl,h1,h2⟩:=h
  exact⟨u,us'++vs,rfl,h1,Yg h2 h'⟩
theorem We{w:World}{en:List Ent}{I:Nat->Prop}:∀{xs:List AV} {us:List Value},Qn w en I xs us->∀k,Qn w en I (xs.take k) (us.take k)
 | [],us,h,k=>by rw[show us=[] from h];simp[Qn]
 | x::xs,us,h,k=>by
  obtain⟨u,us',rfl,h1,h2⟩:=h
  cases k with
  | zero=>simp[Qn]
  | succ k=>exact⟨u,us'.take k,by simp,h1,We h2 k⟩
theorem WN{w:World}{en:List Ent}{I:Nat->Prop}:∀{xs:List AV} {us:List Value},Qn w en I xs us->∀k,Qn w en I (xs.drop k) (us.drop k)
 | [],us,h,k=>by rw[show us=[] from h];simp[Qn]
 | x::xs,us,h,k=>by
  cases k with
  | zero=>exact h
  | succ k=>
   obtain⟨u,us',rfl,h1,h2⟩:=h
   simpa using WN h2 k
theorem WA{w:World}{en:List Ent}{I:Nat->Prop}:∀{ds:List D} {us:List Value} {F:List Nat},repL w ds us F->(∀b∈F,I b)->Qn w en I (ds.map AV.d) us
 | [],us,F,h,_=>h.1
 | d::ds,us,F,h,hI=>by
  obtain⟨u,us',F1,F2,rfl,rfl,h1,h2⟩:=h
  exact⟨u,us',rfl,⟨F1,h1,fun b hb=>hI b (Xat _ hb)⟩,WA h2 (fun b hb=>hI b (Xav _ hb))⟩

def Frs(w0:World)(O:Nat->Prop)(b:Nat):Prop:=O b\/w0.heap.size<=b
structure ZV (f:Nat->Bool) where
 z:Nat->Prop
 fx:Nat->Value->Prop
 lo:∀n v,f n=true->fx n v
instance {f:Nat->Bool}:CoeFun (ZV f) (fun _=>Nat->Prop):=⟨ZV.z⟩
def zv{f:Nat->Bool}(z:Nat->Prop):ZV f:=⟨z,fun _ _=>True,fun _ _ _=>trivial⟩
def NoB:Nat->Prop:=fun _=>False
def NoZ:ZV (fun _=>true):=zv NoB
def Imm{f:Nat->Bool}(w0:World)(Z:ZV f)(O:Nat->Prop)(en:List Ent)(w:World)(b:Nat):Prop:=(Z b\/Frs w0 O b)/\b<w.heap.size/\∀x∈en,¬x.hd b
def EntOk(P:Program)(Fr:Nat->Prop)(w:World)(en:List Ent)(I:Nat->Prop)(x:Ent):Prop:=
 match x.ao with
 | .row e es dp=>∃(z:Nat) (us:List Value),(P.info? e).map (·.size)=some z/\0<z/\w.ownsRow 0 e z x.val es.length us/\(∀el∈es,el.length=z)/\repE w es us x.fs/\
   (dp=false->∀b∈x.fs,I b)/\(∀g,blk x.val=some g->Fr g)/\(dp=true->x.fs.Nodup/\(∀b∈x.fs,Fr b/\b<w.heap.size/\blk x.val≠some b)/\NstL P w es.flatten us)
 | .box e cs=>x.fs=[]/\∃(g:Nat) (cur:Array Value),x.val=.pointer (some ⟨g,0,none⟩)/\Fr g/\w.heap[g]?=some (.cells cur e (0,0))/\Qn w en I cs cur.toList
structure Mem {f:Nat->Bool} (P:Program) (w0:World) (Z:ZV f) (O:Nat->Prop) (en:List Ent) (w:World):Prop where
 os:w.os=w0.os
 tape:w.tape=w0.tape
 output:w.output=w0.output
 size:w0.heap.size<=w.heap.size
 old:∀b,b<w0.heap.size->¬O b->Same w0 w b
 names:(en.map Ent.nm).Nodup
 blks:en.Pairwise fun x y=>∀b,x.hd b->¬y.hd b
 ok:∀x∈en,EntOk P (Frs w0 O) w en (Imm w0 Z O en w) x
 apart:en.Pairwise fun x y=>x.ao.deep=true->y.ao.deep=true->∀b∈x.fs,b∉y.fs
 fix:∀x∈en,Z.fx x.nm x.val

theorem EntOk.lt{P:Program}{Fr:Nat->Prop}{w:World}{en:List Ent}{I:Nat->Prop}{x:Ent}(h:EntOk P Fr w en I x){b:Nat}(hb:blk x.val=some b):b<w.heap.size/\Fr b:=by
 unfold EntOk at h
 split at h
 ·obtain⟨z,us,h0,d,c,e,f,h5,i,h7⟩:=h
  refine⟨?_,i b hb⟩
  rcases c.2 with ⟨hv,_⟩|⟨g,cap,a,hv,_,hg,_⟩
  ·rw[hv]at hb;cases hb
  ·rw[hv]at hb
   simp only[blk,Xak]at hb
   subst hb
   exact(Array.getElem?_eq_some_iff.1 hg).1
 ·obtain⟨_,g,a,d,c,e,f⟩:=h
  rw[d]at hb
  simp only[blk,Xak]at hb
  subst hb
  exact⟨(Array.getElem?_eq_some_iff.1 e).1,c⟩
theorem EntOk.lth{P:Program}{Fr:Nat->Prop}{w:World}{en:List Ent}{I:Nat->Prop}{x:Ent}(h:EntOk P Fr w en I x){b:Nat}(hb:x.hd b):b<w.heap.size/\Fr b:=by
 rcases hb with hb|⟨hd,hb⟩
 ·exact h.lt hb
 ·unfold EntOk at h
  split at h
  ·rename_i a
   obtain⟨z,us,h0,h1,h2,h3,h4,h5,h6,c⟩:=h
   rw[a]at hd
   exact⟨((c hd).2.1 b hb).2.1,((c hd).2.1 b hb).1⟩
  ·rename_i a
   rw[a]at hd
   cases hd
theorem Ent.hd_cut(p:Nat->Bool)(x:Ent)(b:Nat):(x.cut p).hd b↔x.hd b:=by
 unfold Ent.hd
 rw[show(x.cut p).ao.deep=x.ao.deep from AO.cut_deep p x.ao]
 exact Iff.rfl
theorem Qhj{w w':World}{base e z n:Nat}{v:Value}{us:List Value}(h:w.ownsRow base e z v n us)(hS:∀b,blk v=some b->Same w w' b):w'.ownsRow base e z v n us:=by
 refine⟨h.1,?_⟩
 rcases h.2 with h2|⟨g,cap,cur,hv,hb,hg,r⟩
 ·exact .inl h2
 ·exact .inr ⟨g,cap,cur,hv,hb,by rw[show w'.heap[g]?=w.heap[g]? from hS g (by rw[hv];rfl)];exact hg,r⟩
theorem Je{w:World}:∀{es:List (List D)} {us:List Value} {F:List Nat},repE w es us F->repL w es.flatten us F
 | [],_,_,h=>h
 | e::es,us,F,h=>by
  obtain⟨u1,u2,F1,F2,rfl,rfl,h1,h2⟩:=h
  exact JS h1 (Je h2)
theorem NstL.same{P:Program}{w w':World}{ds:List D}{us:List Value}{F:List Nat}(h:NstL P w ds us)(hr:repL w ds us F)(hS:∀b∈F,Same w w' b):NstL P w' ds us:=fun j es u hj hu hne=>by
 obtain⟨e,z,r,l,m,p,n⟩:=h j es u hj hu hne
 obtain⟨u',G,a,i,k⟩:=Qgo hr hj
 rw[hu]at a
 injection a with a
 subst a
 refine⟨e,z,r,l,m,p,Qhj n (fun b hb=>hS b (k b ?_))⟩
 obtain⟨A,d,z',q,F',f,_,_,_,_,_,c⟩:=i
 rcases c with ⟨c,_⟩|⟨_,g,o,rfl,_,rfl,_⟩
 ·exact absurd c hne
 ·rw[f]at hb
  simp only[blk,Xak]at hb
  rw[<-hb];exact Xaa
theorem NstL.nil{P:Program}{w:World}{ds:List D}{us:List Value}(hr:repL w ds us []):NstL P w ds us:=fun j es u hj hu hne=>by
 obtain⟨u',G,g1,c,d⟩:=Qgo hr hj
 obtain⟨A,b,z',e,F',e1,_,_,_,_,_,a⟩:=c
 rcases a with ⟨a,_⟩|⟨_,g,o,rfl,_,rfl,_⟩
 ·exact absurd a hne
 ·exact absurd (d g Xaa) (by simp)
theorem NstL.nilE{P:Program}{w:World}{es:List (List D)}{us:List Value}(hr:repE w es us []):NstL P w es.flatten us:=NstL.nil (Je hr)
theorem NstL.app{P:Program}{w:World}{ds es:List D}{us vs:List Value}(hl:us.length=ds.length)(h1:NstL P w ds us)(h2:NstL P w es vs):NstL P w (ds++es) (us++vs):=fun j q u hj hu hne=>by
 by_cases a:j<ds.length
 ·rw[List.getElem?_append_left a]at hj
  rw[List.getElem?_append_left (by omega)]at hu
  exact h1 j q u hj hu hne
 ·rw[List.getElem?_append_right (by omega)]at hj
  rw[List.getElem?_append_right (by omega),hl]at hu
  exact h2 _ q u hj hu hne
theorem Qfb{α:Type}{z:Nat}(hz0:0<z):∀{es:List (List α)},(∀e∈es,e.length=z)->∀j,es.flatten[j]?=(es[j / z]?).bind (·[j % z]?)
 | [],_,j=>by simp
 | e::es,hz,j=>by
  have he:=hz e Xaa
  rw[XbM]
  by_cases hj:j<z
  ·rw[List.getElem?_append_left (by omega),Xcr hj,Xcs hj]
   rfl
  ·obtain⟨k,rfl⟩:∃k,j=k+z:=⟨j-z,by omega⟩
   rw[List.getElem?_append_right (by omega),he,Xb1,Nat.add_div_right _ hz0,Nat.add_mod_right,Qfb hz0 (fun x hx=>hz x (Xad _ hx)) k]
   rfl
theorem EntOk.mono{P:Program}{Fr Fr':Nat->Prop}{w w':World}{en en':List Ent}{I I':Nat->Prop}{p:Nat->Bool}{x:Ent}(h:EntOk P Fr w en I x)
  (hs:w.heap.size<=w'.heap.size) (hS:∀b,I b->Same w w' b) (hI:∀b,I b->I' b) (hF:∀b,Fr b->Fr' b) (hx:∀b,x.hd b->Same w w' b) (he:∀x∈en,p x.nm=true->∃y∈en',Like x y) :
  EntOk P Fr' w' en' I' (x.cut p):=by
 unfold EntOk at h
 split at h
 ·rename_i e es q a
  obtain⟨z,s,k,f,l,m,i,n,r,c⟩:=h
  unfold EntOk
  simp only[Ent.cut,a,AO.cut]
  have d:∀b∈x.fs,Same w w' b:=fun b hb=>by
   cases q with
   | false=>exact hS b (n rfl b hb)
   | true=>exact hx b (.inr ⟨by rw[a];rfl,hb⟩)
  exact⟨z,s,k,f,Qhj l (fun b hb=>hx b (.inl hb)),m,QI hs _ _ _ i d,fun hd b hb=>hI b (n hd b hb),fun g hg=>hF g (r g hg),fun hd=>⟨(c hd).1,fun b hb=>⟨hF b ((c hd).2.1 b hb).1,XaO ((c hd).2.1 b hb).2.1 hs,((c hd).2.1 b hb).2.2⟩,(c hd).2.2.same (Je i) d⟩⟩
 ·rename_i e o a
  obtain⟨k,g,j,f,l,m,i⟩:=h
  unfold EntOk
  simp only[Ent.cut,a,AO.cut]
  exact⟨k,g,j,f,hF g l,by rw[show w'.heap[g]?=w.heap[g]? from hx g (.inl (by rw[f];rfl))];exact m,Wl hs hS hI he o _ i⟩
theorem Mem.ent_unique{P:Program}{w0:World}{f:Nat->Bool}{Z:ZV f}{O:Nat->Prop}{en:List Ent}{w:World}(h:Mem P w0 Z O en w){x y:Ent}(hx:x∈en)(hy:y∈en)(he:x.nm=y.nm):x=y:=by
 have:=h.names
 clear h
 induction en with
 | nil=>cases hx
 | cons a en ih=>
  simp only[Xas,XaQ,Xaf,not_exists,not_and]at this
  rcases Xai.1 hx with rfl|hx' <;> rcases Xai.1 hy with rfl|hy'
  ·rfl
  ·exact absurd he.symm (this.1 y hy')
  ·exact absurd he (this.1 x hx')
  ·exact ih hx' hy' this.2
theorem Mem.hd_ne{P:Program}{w0:World}{f:Nat->Bool}{Z:ZV f}{O:Nat->Prop}{en:List Ent}{w:World}(h:Mem P w0 Z O en w){x y:Ent}(hx:x∈en)(hy:y∈en)(he:x.nm≠y.nm){b:Nat}(hb:x.hd b):¬y.hd b:=by
 have:=h.blks
 clear h
 induction en with
 | nil=>cases hx
 | cons a en ih=>
  rw[Xau]at this
  rcases Xai.1 hx with rfl|hx' <;> rcases Xai.1 hy with rfl|hy'
  ·exact absurd rfl he
  ·exact this.1 y hy' b hb
  ·intro c
   exact this.1 x hx' b c hb
  ·exact ih hx' hy' this.2
theorem Mem.blk_ne{P:Program}{w0:World}{f:Nat->Bool}{Z:ZV f}{O:Nat->Prop}{en:List Ent}{w:World}(h:Mem P w0 Z O en w){x y:Ent}(hx:x∈en)(hy:y∈en)(he:x.nm≠y.nm){b:Nat}(hb:blk x.val=some b):blk y.val≠some b:=fun hb'=>h.hd_ne hx hy he (.inl hb) (.inl hb')

class TI (P:Program) (T:TypeId) where
 desc:TypeDesc
 und:P.underlying T=some desc
 zero:Value
 size:Nat
 bytes:Nat
 info:(P.info? T).map (fun i=>(i.zero,i.size,i.bytes))=some (some zero,size,bytes)
theorem TI.parts{P:Program}{T:TypeId}(ti:TI P T):∃i,P.info? T=some i/\i.zero=some ti.zero/\i.size=ti.size/\i.bytes=ti.bytes:=info_parts ti.info
theorem TI.sized{P:Program}{T:TypeId}(ti:TI P T):(P.info? T).map (·.size)=some ti.size:=by
 obtain⟨i,c,h2,e,h4⟩:=ti.parts
 rw[c];simp[e]

structure AS where
 nt:Nat
 sl:List (Nat×AV)
 ob:List (Nat×AO)
def look:List (Nat×AV)->Nat->AV
 | [],_=>.any
 | (k,x)::l,t=>bif Nat.beq k t then x else look l t
def Ql:List (Nat×AO)->Nat->Option AO
 | [],_=>none
 | (k,x)::l,t=>bif Nat.beq k t then some x else Ql l t
def AS.put(σ:AS)(t:Nat)(v:AV):AS:={ σ with sl:=(t,v)::σ.sl }
def QdZ:Value->AV
 | .int k n=>.d (.n k n)
 | .bool b=>.d (.b b)
 | .string s=>.d (.s s.data.toList)
 | .slice none 0 0=>.nil
 | _=>.any
def AS.ev(σ:AS):Operand->AV
 | .tmp t=>look σ.sl t
 | .const v=>QdZ v
 | .func g=>.clo g []
 | _=>.any
structure Cx where
 P:Program
 w0:World
 fre:Nat->Bool
 Z:ZV fre
 O:Nat->Prop
 tt:(T:TypeId)->Option (TI P T)
def Ent.key(x:Ent):Nat×AO:=(x.nm,x.ao)
structure J2 (X:Cx) (σ:AS) (a:Act) (w:World) (en:List Ent):Prop where
 mem:Mem X.P X.w0 X.Z X.O en w
 ob:(en.map Ent.key).Perm σ.ob
 defers:a.defers=[]
 size:a.tmps.size=σ.nt
 slots:∀t,(look σ.sl t).shows w en (Imm X.w0 X.Z X.O en w) (a.tmps.getD t undef)
def Rel(X:Cx)(σ:AS)(a:Act)(w:World):Prop:=∃en,J2 X σ a w en
abbrev IM(X:Cx)(en:List Ent)(w:World):Nat->Prop:=Imm X.w0 X.Z X.O en w

theorem Qg(a b:Nat):Nat.beq a b=true↔a=b:=by rw[Nat.beq_eq]
theorem Jp{a b:Nat}(h:Nat.blt a b=true):a<b:=by rwa [Nat.blt_eq]at h
theorem QQ(k:Nat)(x:AV)(l:List (Nat×AV))(t:Nat):look ((k,x)::l) t=if k=t then x else look l t:=by
 simp only[look]
 by_cases h:k=t
 ·have:Nat.beq k t=true:=(Qg k t).2 h
  rw[this,if_pos h];rfl
 ·have:Nat.beq k t=false:=by cases hb:Nat.beq k t with|false=>rfl|true=>exact absurd ((Qg k t).1 hb) h
  rw[this,if_neg h];rfl
theorem Vu(k:Nat)(x:AO)(l:List (Nat×AO))(t:Nat):Ql ((k,x)::l) t=if k=t then some x else Ql l t:=by
 simp only[Ql]
 by_cases h:k=t
 ·have:Nat.beq k t=true:=(Qg k t).2 h
  rw[this,if_pos h];rfl
 ·have:Nat.beq k t=false:=by cases hb:Nat.beq k t with|false=>rfl|true=>exact absurd ((Qg k t).1 hb) h
  rw[this,if_neg h];rfl
theorem Jz:∀{l:List (Nat×AO)} {t:Nat} {x:AO},Ql l t=some x->(t,x)∈l
 | [],_,_,h=>by cases h
 | (k,y)::l,t,x,h=>by
  rw[Vu]at h
  split at h
  ·rename_i hk
   injection h with h
   subst hk;subst h
   exact Xaa
  ·exact Xad _ (Jz h)
theorem J2.ent{X:Cx}{σ:AS}{a:Act}{w:World}{en:List Ent}(h:J2 X σ a w en){o:Nat}{x:AO}(ho:Ql σ.ob o=some x):∃y∈en,y.nm=o/\y.ao=x:=by
 have:=h.ob.mem_iff.2 (Jz ho)
 rw[Xaf]at this
 obtain⟨y,b,e⟩:=this
 injection e with e1 e2
 exact⟨y,b,e1,e2⟩
theorem Qes(s:ByteArray):(⟨s.data.toList.toArray⟩:ByteArray)=s:=by simp
theorem AS.ev_shows{X:Cx}{σ:AS}{a:Act}{w:World}{en:List Ent}(h:J2 X σ a w en)(x:Operand):(σ.ev x).shows w en (IM X en w) (a.eval x):=by
 cases x with
 | tmp t=>exact h.slots t
 | const v=>
  simp only[AS.ev,Act.eval]
  unfold QdZ
  split
  ·exact⟨[],⟨rfl,rfl⟩,by simp⟩
  ·exact⟨[],⟨rfl,rfl⟩,by simp⟩
  ·rename_i s
   exact⟨[],⟨by rw[Qes],rfl⟩,by simp⟩
  ·rfl
  ·trivial
 | global g=>trivial
 | func f=>exact⟨[],rfl,rfl⟩
theorem QT{X:Cx}{σ:AS}{a:Act}{w:World}{en:List Ent}(h:J2 X σ a w en){x:Operand}{v:AV}(hv:σ.ev x=v):v.shows w en (IM X en w) (a.eval x):=hv▸AS.ev_shows h x
theorem J2.put{X:Cx}{σ:AS}{a:Act}{w:World}{en:List Ent}(h:J2 X σ a w en){t:Nat}{v:AV}{u:Value}(hv:v.shows w en (IM X en w) u)(ht:Nat.blt t σ.nt=true):J2 X (σ.put t v) (a.put (some t) u) w en:=by
 have c:t<a.tmps.size:=by rw[h.size];exact Jp ht
 refine⟨h.mem,h.ob,h.defers,by simp[Act.put,AS.put,h.size],fun s=>?_⟩
 simp only[AS.put,QQ,Act.put]
 by_cases b:t=s
 ·subst b
  rw[if_pos rfl]
  have:(a.tmps.setIfInBounds t u).getD t undef=u:=by simp[Array.getD,c]
  rw[this]
  exact hv
 ·rw[if_neg b]
  have:(a.tmps.setIfInBounds t u).getD s undef=a.tmps.getD s undef:=by
   simp only[Array.getD_eq_getD_getElem?,Array.getElem?_setIfInBounds_ne b]
  rw[this]
  exact h.slots s

def JP(p:Nat->Bool)(o:Nat)(en:List Ent):List Ent:=(en.filter (fun y=>y.nm != o)).map (Ent.cut p)
section swap
variable {P:Program} {w0:World} {f:Nat->Bool} {Z:ZV f} {O:Nat->Prop} {en:List Ent} {w w':World} {o:Nat} {x':Ent} {p:Nat->Bool}
theorem VJ{y:Ent}(hy:y∈JP p o en):∃z∈en,z.nm≠o/\y=z.cut p:=by
 simp only[JP,Xaf,XaB,bne_iff_ne]at hy
 obtain⟨z,⟨a,b⟩,rfl⟩:=hy
 exact⟨z,a,b,rfl⟩
theorem QoS{z:Ent}(hz:z∈en)(ho:z.nm≠o):z.cut p∈JP p o en:=by
 simp only[JP,Xaf,XaB,bne_iff_ne]
 exact⟨z,⟨hz,ho⟩,rfl⟩
structure Qfi {f:Nat->Bool} (P:Program) (w0:World) (Z:ZV f) (O:Nat->Prop) (en:List Ent) (w w':World) (o:Nat) (x':Ent) (p:Nat->Bool):Prop where
 mem:Mem P w0 Z O en w
 hp:∀n,n≠o->p n=true
 hk:p o=true->∀x∈en,x.nm=o->Like x x'
 os:w'.os=w.os
 tape:w'.tape=w.tape
 output:w'.output=w.output
 hsz:w.heap.size<=w'.heap.size
 hS:∀b,b<w.heap.size->(∀x∈en,x.nm=o->blk x.val≠some b)->Same w w' b
 hb:∀b,x'.hd b->w.heap.size<=b\/∃x∈en,x.nm=o/\x.hd b
 nm:x'.nm=o
 fx:Z.fx o x'.val
variable (h:Qfi P w0 Z O en w w' o x' p)
include h
theorem Qfi.imm{b:Nat}(hi:Imm w0 Z O en w b):Imm w0 Z O (x'::JP p o en) w' b:=by
 refine⟨hi.1,XaO hi.2.1 h.hsz,fun y hy=>?_⟩
 rcases Xai.1 hy with rfl|hy
 ·intro hb
  rcases h.hb b hb with h1|⟨x,hx,_,h1⟩
  ·have:=hi.2.1;omega
  ·exact hi.2.2 x hx h1
 ·obtain⟨z,a,_,rfl⟩:=VJ hy
  exact fun hb=>hi.2.2 z a ((Ent.hd_cut p z b).1 hb)
theorem Qfi.same{b:Nat}(hi:Imm w0 Z O en w b):Same w w' b:=h.hS b hi.2.1 (fun x hx _ hb=>hi.2.2 x hx (.inl hb))
theorem Qfi.like:∀x∈en,p x.nm=true->∃y∈x'::JP p o en,Like x y:=by
 intro x c b
 by_cases a:x.nm=o
 ·exact⟨x',Xaa,h.hk (a▸b) x c a⟩
 ·exact⟨x.cut p,Xad _ (QoS c a),rfl,rfl,AO.cut_isRow p x.ao,AO.cut_lens p x.ao⟩
theorem Qfi.shows{v:AV}{u:Value}(hv:v.shows w en (Imm w0 Z O en w) u):(v.cut p).shows w' (x'::JP p o en) (Imm w0 Z O (x'::JP p o en) w') u:=
 AV.shows_cut h.hsz (fun _ hb=>h.same hb) (fun _ hb=>h.imm hb) h.like v u hv
theorem Qfi.showsL{v:List AV}{u:List Value}(hv:Qn w en (Imm w0 Z O en w) v u):Qn w' (x'::JP p o en) (Imm w0 Z O (x'::JP p o en) w') (cutL p v) u:=
 Wl h.hsz (fun _ hb=>h.same hb) (fun _ hb=>h.imm hb) h.like v u hv
theorem Qfi.done(hok:EntOk P (Frs w0 O) w' (x'::JP p o en) (Imm w0 Z O (x'::JP p o en) w') x')
  (hd:x'.ao.deep=true->∀y∈en,y.nm≠o->y.ao.deep=true->∀b∈x'.fs,b∉y.fs):Mem P w0 Z O (x'::JP p o en) w':=by
 have m:=h.mem
 have f:∀y∈en,y.nm≠o->∀b,y.hd b->Same w w' b:=fun y a hn b hb=>
  h.hS b ((m.ok y a).lth hb).1 (fun x hx ho hb'=>m.hd_ne a hx (fun e=>hn (e.trans ho)) hb (.inl hb'))
 refine⟨h.os.trans m.os,h.tape.trans m.tape,h.output.trans m.output,Xam m.size h.hsz,?_,?_,?_,?_,?_,fun y a=>?_⟩
 ·intro b hb g
  refine(h.hS b (XaO hb m.size) (fun x hx _ hbx=>?_)).trans (m.old b hb g)
  rcases((m.ok x hx).lt hbx).2 with h1|h1
  ·exact g h1
  ·omega
 ·simp only[Xas,XaQ,h.nm]
  refine⟨?_,?_⟩
  ·intro i
   obtain⟨y,a,e⟩:=Xaf.1 i
   obtain⟨z,_,c,rfl⟩:=VJ a
   exact c e
  ·have:(JP p o en).map Ent.nm=(en.filter (fun y=>y.nm != o)).map Ent.nm:=by
    simp only[JP,XaR]
    rfl
   rw[this]
   exact Xbw (XbI _ XaC) m.names
 ·rw[Xau]
  refine⟨fun y a b hb hby=>?_,?_⟩
  ·obtain⟨z,c,d,rfl⟩:=VJ a
   rcases h.hb b hb with h1|⟨x,hx,hxo,h1⟩
   ·have:=((m.ok z c).lth ((Ent.hd_cut p z b).1 hby)).1;omega
   ·exact m.hd_ne hx c (fun e=>d (e▸hxo)) h1 ((Ent.hd_cut p z b).1 hby)
  ·refine XaX _ (fun x y hxy b h1 h2=>hxy b ((Ent.hd_cut p x b).1 h1) ((Ent.hd_cut p y b).1 h2)) (Xa1 XaC m.blks)
 ·intro y a
  rcases Xai.1 a with rfl|a
  ·exact hok
  ·obtain⟨z,c,d,rfl⟩:=VJ a
   exact(m.ok z c).mono h.hsz (fun _ hb=>h.same hb) (fun _ hb=>h.imm hb) (fun _ hb=>hb) (f z c d) h.like
 ·rw[Xau]
  refine⟨fun y a hdx hdy b hb hby=>?_,?_⟩
  ·obtain⟨z,c,d,rfl⟩:=VJ a
   exact hd hdx z c d (by rw[<-AO.cut_deep p];exact hdy) b hb hby
  ·refine XaX _ (fun x y hxy h1 h2=>?_) (Xa1 XaC m.apart)
   exact hxy (by rw[<-AO.cut_deep p];exact h1) (by rw[<-AO.cut_deep p];exact h2)
 ·rcases Xai.1 a with rfl|a
  ·rw[h.nm];exact h.fx
  ·obtain⟨z,c,_,rfl⟩:=VJ a
   exact m.fix z c
theorem Qfi.same_fs{x:Ent}{dp:Bool}(hx:x∈en)(hn:x.nm=o)(k5:dp=false->∀b∈x.fs,Imm w0 Z O en w b)(k7:dp=true->∀b∈x.fs,Frs w0 O b/\b<w.heap.size/\blk x.val≠some b):∀b∈x.fs,Same w w' b:=by
 intro b hb
 cases dp with
 | false=>exact h.same (k5 rfl b hb)
 | true=>
  obtain⟨_,a,c⟩:=k7 rfl b hb
  exact h.hS b a (fun y hy hyn=>by rw[h.mem.ent_unique hy hx (hyn.trans hn.symm)];exact c)
theorem Qfi.imm_fs{x:Ent}{dp:Bool}(hx:x∈en)(hn:x.nm=o)(hdp:x.ao.deep=dp)(k5:dp=false->∀b∈x.fs,Imm w0 Z O en w b)(k7:dp=true->∀b∈x.fs,Frs w0 O b/\b<w.heap.size/\blk x.val≠some b)
  (hnx:dp=true->∀b∈x.fs,¬x'.hd b):∀b∈x.fs,Imm w0 Z O (x'::JP p o en) w' b:=by
 intro b hb
 cases dp with
 | false=>exact h.imm (k5 rfl b hb)
 | true=>
  obtain⟨c,d,h3⟩:=k7 rfl b hb
  refine⟨.inr c,XaO d h.hsz,fun y hy=>?_⟩
  rcases Xai.1 hy with rfl|hy
  ·exact hnx rfl b hb
  ·obtain⟨z,f,a,rfl⟩:=VJ hy
   exact fun hq=>h.mem.hd_ne hx f (fun e=>a (e▸hn)) (.inr ⟨hdp,hb⟩) ((Ent.hd_cut p z b).1 hq)
end swap
def cutS(p:Nat->Bool)(sl:List (Nat×AV)):List (Nat×AV):=sl.map fun y=>(y.1,y.2.cut p)
def Qjx(p:Nat->Bool)(o:Nat)(ob:List (Nat×AO)):List (Nat×AO):=(ob.filter (fun y=>y.1 != o)).map fun y=>(y.1,y.2.cut p)
def YT(o:Nat)(ob:List (Nat×AO)):List (Nat×AO):=ob.filter (fun y=>y.1 != o)
theorem QnC(o:Nat)(ob:List (Nat×AO)):Qjx (fun _=>true) o ob=YT o ob:=by
 unfold Qjx YT
 have:(fun(y:Nat×AO)=>(y.1,y.2.cut fun _=>true))=id:=by funext y;simp[AO.cut_true]
 rw[this,XcN]
theorem WV(p:Nat->Bool):∀(sl:List (Nat×AV)) (t:Nat),look (cutS p sl) t=(look sl t).cut p
 | [],_=>rfl
 | (k,x)::l,t=>by
  have ih:=WV p l t
  simp only[cutS]at ih
  simp only[cutS,Xas,QQ]
  split
  ·rfl
  ·exact ih
theorem J2.swap{X:Cx}{σ:AS}{a:Act}{w w':World}{en:List Ent}(h:J2 X σ a w en){o:Nat}{x':Ent}{p:Nat->Bool}(hs:Qfi X.P X.w0 X.Z X.O en w w' o x' p)
  (hok:EntOk X.P (Frs X.w0 X.O) w' (x'::JP p o en) (IM X (x'::JP p o en) w') x')
  (hd:x'.ao.deep=true->∀y∈en,y.nm≠o->y.ao.deep=true->∀b∈x'.fs,b∉y.fs) :
  J2 X ⟨σ.nt,cutS p σ.sl,(o,x'.ao)::Qjx p o σ.ob⟩ a w' (x'::JP p o en):=by
 refine⟨hs.done hok hd,?_,h.defers,h.size,fun t=>?_⟩
 ·simp only[Xas,Ent.key,hs.nm]
  refine List.Perm.cons _ ?_
  have e:(JP p o en).map Ent.key=Qjx p o (en.map Ent.key):=by
   simp only[Qjx,JP,XaR,XbQ]
   rfl
  rw[e]
  exact(h.ob.filter _).map _
 ·simp only[WV]
  exact hs.shows (h.slots t)
theorem Qa7(sl:List (Nat×AV)):cutS (fun _=>true) sl=sl:=by
 unfold cutS
 have:(fun(y:Nat×AV)=>(y.1,y.2.cut fun _=>true))=id:=by funext y;simp[AV.cut_true]
 rw[this,XcN]
theorem J2.swap_keep{X:Cx}{σ:AS}{a:Act}{w w':World}{en:List Ent}(h:J2 X σ a w en){o:Nat}{x':Ent}(hs:Qfi X.P X.w0 X.Z X.O en w w' o x' (fun _=>true))
  (hok:EntOk X.P (Frs X.w0 X.O) w' (x'::JP (fun _=>true) o en) (IM X (x'::JP (fun _=>true) o en) w') x')
  (hd:x'.ao.deep=true->∀y∈en,y.nm≠o->y.ao.deep=true->∀b∈x'.fs,b∉y.fs) :
  J2 X ⟨σ.nt,σ.sl,(o,x'.ao)::YT o σ.ob⟩ a w' (x'::JP (fun _=>true) o en):=by
 have:=h.swap hs hok hd
 rwa [Qa7,QnC]at this
theorem J2.ext{X:Cx}{σ:AS}{a:Act}{w w':World}{en:List Ent}(h:J2 X σ a w en)(he:Ext w w'):J2 X σ a w' en:=by
 have m:=h.mem
 have c:∀b,b<w.heap.size->Same w w' b:=fun b hb=>he.block b hb
 have d:∀b,Imm X.w0 X.Z X.O en w b->Imm X.w0 X.Z X.O en w' b:=fun b hb=>⟨hb.1,XaO hb.2.1 he.size,hb.2.2⟩
 have f:∀x∈en,(fun _=>true) x.nm=true->∃y∈en,Like x y:=fun x hx _=>⟨x,hx,rfl,rfl,rfl,rfl⟩
 refine⟨⟨he.os.trans m.os,he.tape.trans m.tape,he.output.trans m.output,Xam m.size he.size,fun b hb hO=>(c b (XaO hb m.size)).trans (m.old b hb hO),m.names,m.blks,fun x hx=>?_,m.apart,m.fix⟩,h.ob,h.defers,h.size,fun t=>?_⟩
 ·have:=(m.ok x hx).mono (p:=fun _=>true) (en':=en) (w':=w') (I':=Imm X.w0 X.Z X.O en w') he.size (fun b hb=>c b hb.2.1) d (fun _ hb=>hb) (fun b hb=>c b ((m.ok x hx).lth hb).1) f
  have e:x.cut (fun _=>true)=x:=by cases x;simp[Ent.cut,AO.cut_true]
  rwa [e]at this
 ·exact AV.shows_mono he.size (fun b hb=>c b hb.2.1) d (fun x hx=>f x hx rfl) (h.slots t)

def AS.keep(σ:AS)(p:Nat->Bool):AS:=⟨σ.nt,cutS p σ.sl,(σ.ob.filter fun y=>p y.1).map fun y=>(y.1,y.2.cut p)⟩
theorem J2.keep{X:Cx}{σ:AS}{a:Act}{w:World}{en:List Ent}(h:J2 X σ a w en)(p:Nat->Bool):J2 X (σ.keep p) a w ((en.filter fun y=>p y.nm).map (Ent.cut p)):=by
 have m:=h.mem
 have c:∀{y:Ent},y∈(en.filter fun y=>p y.nm).map (Ent.cut p)->∃z∈en,p z.nm=true/\y=z.cut p:=by
  intro y d
  simp only[Xaf,XaB]at d
  obtain⟨z,⟨f,g⟩,rfl⟩:=d
  exact⟨z,f,g,rfl⟩
 have j:∀b,Imm X.w0 X.Z X.O en w b->Imm X.w0 X.Z X.O ((en.filter fun y=>p y.nm).map (Ent.cut p)) w b:=fun b hb=>⟨hb.1,hb.2.1,fun y d=>by
  obtain⟨z,i,_,rfl⟩:=c d
  exact fun h=>hb.2.2 z i ((Ent.hd_cut p z b).1 h)⟩
 have k:∀x∈en,p x.nm=true->∃y∈(en.filter fun y=>p y.nm).map (Ent.cut p),Like x y:=fun x hx hp=>
  ⟨x.cut p,by simp only[Xaf,XaB];exact⟨x,⟨hx,hp⟩,rfl⟩,rfl,rfl,AO.cut_isRow p x.ao,AO.cut_lens p x.ao⟩
 refine⟨⟨m.os,m.tape,m.output,m.size,m.old,?_,?_,?_,?_,fun y d=>by
  obtain⟨z,i,_,rfl⟩:=c d
  exact m.fix z i⟩,?_,h.defers,h.size,fun t=>?_⟩
 ·have:((en.filter fun y=>p y.nm).map (Ent.cut p)).map Ent.nm=(en.filter fun y=>p y.nm).map Ent.nm:=by simp only[XaR];rfl
  rw[this]
  exact Xbw (XbI _ XaC) m.names
 ·exact XaX _ (fun x y hxy b f g=>hxy b ((Ent.hd_cut p x b).1 f) ((Ent.hd_cut p y b).1 g)) (Xa1 XaC m.blks)
 ·intro y d
  obtain⟨z,i,_,rfl⟩:=c d
  exact(m.ok z i).mono (Xaj _) (fun _ _=>rfl) j (fun _ hb=>hb) (fun _ _=>rfl) k
 ·refine XaX _ (fun x y hxy f g=>?_) (Xa1 XaC m.apart)
  exact hxy (by rw[<-AO.cut_deep p];exact f) (by rw[<-AO.cut_deep p];exact g)
 ·have e:((en.filter fun y=>p y.nm).map (Ent.cut p)).map Ent.key=((en.map Ent.key).filter fun y=>p y.1).map fun y=>(y.1,y.2.cut p):=by
   simp only[XaR,XbQ]
   rfl
  rw[e]
  exact(h.ob.filter _).map _
 ·simp only[AS.keep,WV]
  exact AV.shows_cut (Xaj _) (fun _ _=>rfl) j k _ _ (h.slots t)

mutual
def AV.okp(p:Nat->Bool):AV->Bool
 | .row o=>p o
 | .ptr o _=>p o
 | .pr o _ _=>p o
 | .agg xs=>okpL p xs
 | .tup xs=>okpL p xs
 | .clo _ xs=>okpL p xs
 | .sub o _ _=>p o
 | _=>true
def okpL(p:Nat->Bool):List AV->Bool
 | []=>true
 | x::xs=>x.okp p&&okpL p xs
end
mutual
theorem AV.cut_ok{p:Nat->Bool}:∀(x:AV),x.okp p=true->x.cut p=x
 | .any,_=>rfl
 | .d _,_=>rfl
 | .nil,_=>rfl
 | .pd _ _,_=>rfl
 | .row o,h=>by simp only[AV.cut,show p o=true from h,if_true]
 | .ptr o _,h=>by simp only[AV.cut,show p o=true from h,if_true]
 | .pr o _ _,h=>by simp only[AV.cut,show p o=true from h,if_true]
 | .agg xs,h=>by simp only[AV.cut,Qcw xs h]
 | .tup xs,h=>by simp only[AV.cut,Qcw xs h]
 | .clo _ xs,h=>by simp only[AV.cut,Qcw xs h]
 | .sub o _ _,h=>by simp only[AV.cut,show p o=true from h,if_true]
theorem Qcw{p:Nat->Bool}:∀(xs:List AV),okpL p xs=true->cutL p xs=xs
 | [],_=>rfl
 | x::xs,h=>by
  simp only[okpL,Xac]at h
  simp only[cutL,AV.cut_ok x h.1,Qcw xs h.2]
end
def AO.okp(p:Nat->Bool):AO->Bool
 | .box _ cs=>okpL p cs
 | .row ..=>true
theorem AO.cut_ok{p:Nat->Bool}(x:AO)(h:x.okp p=true):x.cut p=x:=by
 cases x with
 | box e cs=>simp only[AO.cut,Qcw cs h]
 | row=>rfl
def hasN(t:Nat):List (Nat×AO)->Bool
 | []=>false
 | (k,_)::l=>bif Nat.beq k t then true else hasN t l
theorem Ji{t:Nat}:∀{l:List (Nat×AO)},hasN t l=true↔∃y∈l,y.1=t
 | []=>by simp[hasN]
 | (k,x)::l=>by
  simp only[hasN]
  by_cases h:k=t
  ·have:Nat.beq k t=true:=(Qg k t).2 h
   rw[this]
   exact⟨fun _=>⟨(k,x),Xaa,h⟩,fun _=>rfl⟩
  ·have:Nat.beq k t=false:=by cases hb:Nat.beq k t with|false=>rfl|true=>exact absurd ((Qg k t).1 hb) h
   rw[this]
   simp only[cond_false,Ji (l:=l),Xai]
   refine⟨fun⟨y,hy,e⟩=>⟨y,.inr hy,e⟩,fun⟨y,hy,e⟩=>?_⟩
   rcases hy with rfl|hy
   ·exact absurd e h
   ·exact⟨y,hy,e⟩
def YU(f:Nat->Bool)(t:Nat)(l:List (Nat×AO)):Bool:=bif hasN t l then false else f t
def fre0(t:Nat):Bool:=Nat.blt t 1000000
theorem Q9{f:Nat->Bool}{t:Nat}{l:List (Nat×AO)}(h:YU f t l=true):hasN t l=false/\f t=true:=by
 unfold YU at h
 cases hb:hasN t l with
 | true=>rw[hb]at h;cases h
 | false=>rw[hb]at h;exact⟨rfl,h⟩
def W4:List (Nat×AO)->Bool
 | []=>true
 | (k,_)::l=>!hasN k l&&W4 l
def AS.closed(τ:AS):Bool:=(τ.sl.all fun y=>y.2.okp fun n=>hasN n τ.ob)&&(τ.ob.all fun y=>y.2.okp fun n=>hasN n τ.ob)&&W4 τ.ob
def slLe(σ:AS):List (Nat×AV)->Prop
 | []=>True
 | (t,x)::l=>look σ.sl t=x/\slLe σ l
def obLe(σ:AS):List (Nat×AO)->Prop
 | []=>True
 | (t,x)::l=>Ql σ.ob t=some x/\obLe σ l
structure AS.le (σ τ:AS):Prop where
 nt:τ.nt=σ.nt
 sl:slLe σ τ.sl
 ob:obLe σ τ.ob
 closed:τ.closed=true
theorem Qlf{σ:AS}:∀{l:List (Nat×AV)},slLe σ l->∀{t:Nat} {x:AV},(t,x)∈l->look σ.sl t=x
 | (k,y)::l,h,t,x,hm=>by
  rcases Xai.1 hm with e|hm
  ·injection e with e1 e2;subst e1;subst e2;exact h.1
  ·exact Qlf h.2 hm
theorem QhB{σ:AS}:∀{l:List (Nat×AO)},obLe σ l->∀{t:Nat} {x:AO},(t,x)∈l->Ql σ.ob t=some x
 | (k,y)::l,h,t,x,hm=>by
  rcases Xai.1 hm with e|hm
  ·injection e with e1 e2;subst e1;subst e2;exact h.1
  ·exact QhB h.2 hm
theorem Qhf:∀{l:List (Nat×AV)} {t:Nat},look l t=.any\/(t,look l t)∈l
 | [],t=>.inl rfl
 | (k,x)::l,t=>by
  rw[QQ]
  split
  ·rename_i hk;subst hk;exact .inr Xaa
  ·rcases Qhf (l:=l) (t:=t)with h|h
   ·exact .inl h
   ·exact .inr (Xad _ h)
theorem WC:∀{l:List (Nat×AO)},W4 l=true->(l.map Prod.fst).Nodup
 | [],_=>by simp
 | (k,x)::l,h=>by
  simp only[W4,Xac,Xa6]at h
  simp only[Xas,XaQ]
  refine⟨fun hm=>?_,WC h.2⟩
  obtain⟨y,hy,e⟩:=Xaf.1 hm
  have:hasN k l=true:=Ji.2 ⟨y,hy,e⟩
  rw[h.1]at this
  cases this
theorem Wj{l:List (Nat×AO)}(h:(l.map Prod.fst).Nodup):l.Nodup:=by
 induction l with
 | nil=>simp
 | cons a l ih=>
  simp only[Xas,XaQ]at h ⊢
  exact⟨fun hm=>h.1 (Xaf.2 ⟨a,hm,rfl⟩),ih h.2⟩
theorem Qae{l:List (Nat×AO)}(h:(l.map Prod.fst).Nodup){x y:Nat×AO}(hx:x∈l)(hy:y∈l)(he:x.1=y.1):x=y:=by
 induction l with
 | nil=>cases hx
 | cons a l ih=>
  simp only[Xas,XaQ,Xaf,not_exists,not_and]at h
  rcases Xai.1 hx with rfl|hx' <;> rcases Xai.1 hy with rfl|hy'
  ·rfl
  ·exact absurd he.symm (h.1 y hy')
  ·exact absurd he (h.1 x hx')
  ·exact ih h.2 hx' hy'
theorem J2.le{X:Cx}{σ τ:AS}{a:Act}{w:World}{en:List Ent}(h1:J2 X σ a w en)(hl:σ.le τ):J2 X τ a w ((en.filter fun y=>hasN y.nm τ.ob).map (Ent.cut fun n=>hasN n τ.ob)):=by
 obtain⟨m,o,h,f⟩:=hl
 simp only[AS.closed,Xac,XaD]at f
 obtain⟨⟨q,p⟩,r⟩:=f
 have d:=h1.keep (fun n=>hasN n τ.ob)
 refine⟨d.mem,?_,d.defers,d.size.trans m.symm,fun t=>?_⟩
 ·refine d.ob.trans ?_
  have g:(σ.ob.map Prod.fst).Nodup:=by
   have:=h1.mem.names
   have e:en.map Ent.nm=(en.map Ent.key).map Prod.fst:=by simp only[XaR];rfl
   rw[e]at this
   exact(h1.ob.map _).nodup_iff.1 this
  have k:=WC r
  refine(Xb8 ?_ (Wj k)).2 (fun y=>?_)
  ·refine Wj ?_
   have e:((σ.ob.filter fun y=>hasN y.1 τ.ob).map fun y=>(y.1,y.2.cut fun n=>hasN n τ.ob)).map Prod.fst=(σ.ob.filter fun y=>hasN y.1 τ.ob).map Prod.fst:=by simp only[XaR];rfl
   show(((σ.keep fun n=>hasN n τ.ob).ob).map Prod.fst).Nodup
   rw[AS.keep,e]
   exact Xbw (XbI _ XaC) g
  ·simp only[AS.keep,Xaf,XaB]
   constructor
   ·rintro ⟨z,⟨u,s⟩,rfl⟩
    obtain⟨y,c,e⟩:=Ji.1 s
    have b:=Jz (QhB h (t:=y.1) (x:=y.2) c)
    have j:=Qae g u b e.symm
    have i:=AO.cut_ok y.2 (p y c)
    rw[j]
    simp only[i]
    exact c
   ·intro c
    have b:=Jz (QhB h (t:=y.1) (x:=y.2) c)
    exact⟨y,⟨b,Ji.2 ⟨y,c,rfl⟩⟩,by rw[AO.cut_ok y.2 (p y c)]⟩
 ·rcases Qhf (l:=τ.sl) (t:=t)with b|b
  ·rw[b];trivial
  ·have j:=Qlf o b
   have i:=d.slots t
   simp only[AS.keep,WV,j]at i
   rwa [AV.cut_ok _ (q _ b)]at i

theorem Rel.le{X:Cx}{σ τ:AS}{a:Act}{w:World}(h:Rel X σ a w)(hl:σ.le τ):Rel X τ a w:=by
 obtain⟨en,b⟩:=h
 exact⟨_,b.le hl⟩

def lift(X:Cx)(Q:Exit->AS->Prop):Exit->Act->World->Prop:=fun e a w=>∃σ,Q e σ/\Rel X σ a w
def AWp(X:Cx)(c:Code)(Q:Exit->AS->Prop)(σ:AS):Prop:=∀a w,Rel X σ a w->c.wp X.P (lift X Q) a w
def QtT(next:AS->Prop)(Q:Exit->AS->Prop):Exit->AS->Prop
 | .normal,σ=>next σ
 | e,σ=>Q e σ
def QuH(id:Nat)(Q:Exit->AS->Prop):Exit->AS->Prop
 | .exit id',σ=>bif Nat.beq id' id then Q .normal σ else Q (.exit id') σ
 | e,σ=>Q e σ
section
variable {X:Cx} {Q:Exit->AS->Prop} {σ:AS}
theorem QhG{x y:Code}(h:AWp X x (QtT (AWp X y Q) Q) σ):AWp X (.seq x y) Q σ:=fun a w hr=>
 wp_seq (wp_mono (h a w hr) fun e a' w' ⟨σ',hq,hr'⟩=>by
  cases e with
  | normal=>exact hq a' w' hr'
  | _=>exact⟨σ',hq,hr'⟩)
theorem Qd9{id:Nat}{c:Code}(h:AWp X c (QuH id Q) σ):AWp X (.block id c) Q σ:=fun a w hr=>
 wp_block (wp_mono (h a w hr) fun e a' w' ⟨σ',hq,hr'⟩=>by
  cases e with
  | exit id'=>
   simp only[QuH]at hq
   simp only[Exit.inBlock]
   by_cases b:id'=id
   ·rw[(Qg _ _).2 b]at hq
    rw[if_pos b]
    exact⟨σ',hq,hr'⟩
   ·have:Nat.beq id' id=false:=by cases hb:Nat.beq id' id with|false=>rfl|true=>exact absurd ((Qg _ _).1 hb) b
    rw[this]at hq
    rw[if_neg b]
    exact⟨σ',hq,hr'⟩
  | _=>exact⟨σ',hq,hr'⟩)
theorem Qg2(h:Q .normal σ):AWp X .skip Q σ:=fun _ _ hr=>wp_skip ⟨σ,h,hr⟩
theorem QgE{id:Nat}(h:Q (.exit id) σ):AWp X (.exit id) Q σ:=fun _ _ hr=>wp_exit ⟨σ,h,hr⟩
theorem Qe3(h:Q .ret σ):AWp X .ret Q σ:=fun _ _ hr=>wp_ret ⟨σ,h,hr⟩
theorem QgF{c:Operand}{x y:Code}{t:Bool}(hc:σ.ev c=.d (.b t))(h1:t=true->AWp X x Q σ)(h2:t=false->AWp X y Q σ):AWp X (.cond c x y) Q σ:=fun a w hr=>by
 obtain⟨e,h⟩:=hr
 have:=QT h hc
 obtain⟨F,⟨f,_⟩,_⟩:=this
 exact wp_cond_split f (fun ht=>h1 ht a w ⟨e,h⟩) (fun ht=>h2 ht a w ⟨e,h⟩)
theorem QmY{c:Operand}{x y:Code}(hc:σ.ev c=.d (.b true))(h1:AWp X x Q σ):AWp X (.cond c x y) Q σ:=QgF hc (fun _=>h1) (fun h=>by cases h)
theorem Qns{c:Operand}{x y:Code}(hc:σ.ev c=.d (.b false))(h1:AWp X y Q σ):AWp X (.cond c x y) Q σ:=QgF hc (fun h=>by cases h) (fun _=>h1)
theorem QxC{c:Code}{τ:AS}(hl:σ.le τ)(h:AWp X c Q τ):AWp X c Q σ:=fun a w hr=>h a w (hr.le hl)
theorem Qsn{c:Code}{Q':Exit->AS->Prop}(h:AWp X c Q σ)(hq:∀e σ,Q e σ->Q' e σ):AWp X c Q' σ:=fun a w hr=>
 wp_mono (h a w hr) fun e _ _ ⟨σ',hq',hr'⟩=>⟨σ',hq e σ' hq',hr'⟩
theorem least{p:Nat->Prop}(h:∃n,p n):∃n,p n/\∀m,p m->n<=m:=by
 obtain⟨n,e⟩:=h
 induction n using Nat.strongRecOn with
 | _ n ih=>
  by_cases b:∃m,m<n/\p m
  ·obtain⟨m,c,d⟩:=b
   exact ih m c d
  ·exact⟨n,e,fun m hp=>Xct fun hlt=>b ⟨m,hlt,hp⟩⟩
theorem Qa{ι:Type}{c:Code}(S:ι->AS)(ok:ι->Prop)(μ:ι->Nat)(i0:ι)(hi:ok i0)(h0:σ.le (S i0))
  (round:∀i,ok i->AWp X c (QtT (fun σ'=>∃j,ok j/\μ j<μ i/\σ'.le (S j)) Q) (S i)):AWp X (.loop c) Q σ:=fun a w hr=>by
 let p:Act->World->Nat->Prop:=fun a w n=>∃i,ok i/\Rel X (S i) a w/\μ i=n
 let m:Act->World->Nat:=fun a w=>open Classical in if h:∃n,p a w n then(least h).choose else 0
 have d:∀a w (h:∃n,p a w n),p a w (m a w)/\∀n,p a w n->m a w<=n:=fun a w h=>by
  have:m a w=(least h).choose:=dif_pos h
  rw[this]
  exact(least h).choose_spec
 refine wp_loop (fun a w=>∃n,p a w n) m ⟨_,i0,hi,hr.le h0,rfl⟩ (fun a w hI=>?_)
 obtain⟨⟨i,k,l,h3⟩,h4⟩:=d a w hI
 refine wp_mono (round i k a w l) (fun e a' w' ⟨σ',hq,hr'⟩=>?_)
 cases e with
 | normal=>
  obtain⟨j,f,g2,g⟩:=hq
  have b:p a' w' (μ j):=⟨j,f,hr'.le g,rfl⟩
  refine⟨⟨_,b⟩,?_⟩
  have:=(d a' w' ⟨_,b⟩).2 _ b
  omega
 | _=>exact⟨σ',hq,hr'⟩
theorem Qwe{ι:Type}{x y:Code}(S:ι->AS)(ok:ι->Prop)(h1:AWp X x (QtT (fun σ'=>∃j,ok j/\σ'.le (S j)) Q) σ)(h2:∀j,ok j->AWp X y Q (S j)):AWp X (.seq x y) Q σ:=
 QhG (Qsn h1 fun e _ h=>by
  cases e with
  | normal=>
   obtain⟨j,b,c⟩:=h
   exact QxC c (h2 j b)
  | _=>exact h)

def OpOk(X:Cx)(o:Oper)(σ:AS)(K:AS->Prop):Prop:=∀a w,Rel X σ a w->∀(next:Act->World->Prop) (Q:Exit->Act->World->Prop),(∀σ' a' w',K σ'->Rel X σ' a' w'->next a' w')->o.wp X.P a w next Q
def QOk(X:Cx)(o:Oper)(σ:AS)(K:AS->Prop):Prop:=∀a w,Rel X σ a w->o.quiet X.P a (Ext w) (fun a'=>∃σ',K σ'/\Rel X σ' a' w)
def QM(X:Cx)(ops:Array Oper)(l:List Oper)(Q:Exit->AS->Prop)(σ:AS):Prop:=∀a w,Rel X σ a w->wpList X.P ops (lift X Q) l a w
theorem Rel.ext{w w':World}{a:Act}(h:Rel X σ a w)(he:Ext w w'):Rel X σ a w':=by
 obtain⟨b,h⟩:=h
 exact⟨b,h.ext he⟩
theorem QOk.ok{o:Oper}{K:AS->Prop}(h:QOk X o σ K):OpOk X o σ K:=fun a w hr _ _ hn=>
 Oper.wp_of_quiet (C:=Ext w) (Ext.refl w) (fun _ w' hw' ⟨σ',hk,hr'⟩=>hn σ' _ w' hk (hr'.ext hw')) (h a w hr)
theorem Qm0{id:Nat}{l:List Oper}(h:QM X l.toArray l Q σ):AWp X (.region id l.toArray false) Q σ:=fun a w hr=>wp_region_lit (h a w hr)
theorem QkS{ops:Array Oper}(h:Q .normal σ):QM X ops [] Q σ:=fun _ _ hr=>wpList_nil ⟨σ,h,hr⟩
theorem Qg5{ops:Array Oper}{o:Oper}{l:List Oper}(hg:o.guard=none)(h:OpOk X o σ (QM X ops l Q)):QM X ops (o::l) Q σ:=fun a w hr=>
 wpList_plain hg fun K hK=>h a w hr K _ fun _ a' w' hk hr'=>hK a' w' (hk a' w' hr')
theorem J2.tmp_some{en:List Ent}{a:Act}{w:World}{d:Nat}{t:Bool}(h:J2 X σ a w en)(hv:look σ.sl d=.d (.b t)):a.tmps[d]?=some (.bool t):=by
 have e:=h.slots d
 rw[hv]at e
 obtain⟨F,⟨c,_⟩,_⟩:=e
 rw[Array.getD_eq_getD_getElem?]at c
 cases f:a.tmps[d]? with
 | some v=>rw[f]at c;simpa using c
 | none=>rw[f]at c;cases c
theorem Qkb{ops:Array Oper}{o:Oper}{l:List Oper}{j d:Nat}{t:Bool}(hg:o.guard=some (j,t))(hd:(ops[j]?).bind (·.dst)=some d)(hv:look σ.sl d=.d (.b t))(h:OpOk X o σ (QM X ops l Q)):QM X ops (o::l) Q σ:=fun a w hr=>by
 obtain⟨e,c⟩:=hr
 have f:yielded ops a.tmps j=some t:=by
  unfold yielded
  rw[hd,Xbc,c.tmp_some hv]
 refine wpList_step fun K hK=>?_
 simp only[Region.wanted,hg,f,beq_self_eq_true,if_true]
 exact h a w ⟨e,c⟩ K _ fun _ a' w' hk hr'=>hK a' w' (hk a' w' hr')
theorem Qut{ops:Array Oper}{o:Oper}{l:List Oper}{j d s:Nat}{t t':Bool}(hg:o.guard=some (j,t))(hd:(ops[j]?).bind (·.dst)=some d)(hv:look σ.sl d=.d (.b t'))(hne:(t'==t)=false)(hs:o.dst=some s)(ht:Nat.blt s σ.nt=true)
  (h:QM X ops l Q (σ.put s (.tup []))):QM X ops (o::l) Q σ:=fun a w hr=>by
 obtain⟨f,e⟩:=hr
 have g:yielded ops a.tmps j=some t':=by
  unfold yielded
  rw[hd,Xbc,e.tmp_some hv]
 refine wpList_step fun K hK=>?_
 have c:(some t'==some t)=false:=hne
 simp only[Region.wanted,hg,g,c,XaT,if_false,hs]
 exact hK _ _ (h _ _ ⟨f,e.put ⟨[],rfl,rfl⟩ ht⟩)
theorem QwJ{ops:Array Oper}{o:Oper}{l:List Oper}{j d s:Nat}{t:Bool}(hg:o.guard=some (j,t))(hd:(ops[j]?).bind (·.dst)=some d)(hv:look σ.sl d=.tup [])(hs:o.dst=some s)(ht:Nat.blt s σ.nt=true)
  (h:QM X ops l Q (σ.put s (.tup []))):QM X ops (o::l) Q σ:=fun a w hr=>by
 obtain⟨g,e⟩:=hr
 have m:yielded ops a.tmps j=none:=by
  unfold yielded
  rw[hd,Xbc]
  have f:=e.slots d
  rw[hv]at f
  obtain⟨n,c,i⟩:=f
  rw[show n=[] from i,Array.getD_eq_getD_getElem?]at c
  cases k:a.tmps[d]? with
  | none=>rfl
  | some v=>rw[k]at c;simp only[XaJ]at c;rw[c]
 refine wpList_step fun K hK=>?_
 have b:((none:Option Bool)==some t)=false:=rfl
 simp only[Region.wanted,hg,m,b,XaT,if_false,hs]
 exact hK _ _ (h _ _ ⟨g,e.put ⟨[],rfl,rfl⟩ ht⟩)
theorem Qoo{ops:Array Oper}{l:List Oper}{d:Nat}{t:Bool}(hv:look σ.sl d=.d (.b t))(h1:t=true->QM X ops l Q (σ.put d (.d (.b true))))(h2:t=false->QM X ops l Q (σ.put d (.d (.b false)))):QM X ops l Q σ:=fun a w hr=>by
 obtain⟨g,h⟩:=hr
 have c:∀(t':Bool),t=t'->Rel X (σ.put d (.d (.b t'))) a w:=fun t' e=>by
  subst e
  refine⟨g,h.mem,h.ob,h.defers,h.size,fun s=>?_⟩
  simp only[AS.put,QQ]
  split
  ·rename_i i
   subst i
   rw[<-hv]
   exact h.slots d
  ·exact h.slots s
 cases f:t with
 | true=>exact h1 f a w (c true f)
 | false=>exact h2 f a w (c false f)
theorem Qnr{ops:Array Oper}{o:Oper}{l:List Oper}{j d:Nat}{t t':Bool}(_hg:o.guard=some (j,t))(_hd:(ops[j]?).bind (·.dst)=some d)(hv:look σ.sl d=.d (.b t'))
  (h1:t'=true->QM X ops (o::l) Q (σ.put d (.d (.b true)))) (h2:t'=false->QM X ops (o::l) Q (σ.put d (.d (.b false)))):QM X ops (o::l) Q σ:=Qoo hv h1 h2
theorem Xi{P:Program}{ops:Array Oper}{C:World->Prop}{Q Q':Act->Prop}(hq:∀a,Q a->Q' a):∀(l:List Oper) (a:Act),wpQuiet P ops C Q l a->wpQuiet P ops C Q' l a
 | [],a,h=>hq a h
 | o::l,a,h=>by
  unfold wpQuiet at h ⊢
  split
  ·rename_i hw
   rw[if_pos hw]at h
   exact Oper.quiet_mono (fun a'=>Xi hq l a') h
  ·rename_i hw
   rw[if_neg hw]at h
   exact Xi hq l _ h
def QsOk(X:Cx)(ops:Array Oper)(l:List Oper)(N:AS->Prop)(σ:AS):Prop:=∀a w,Rel X σ a w->wpQuiet X.P ops (Ext w) (fun a'=>∃σ',N σ'/\Rel X σ' a' w) l a
theorem Qtb{id:Nat}{l:List Oper}(hm:X.P.follows .mixedOrders=true)(hB:Region.lexB .any l.toArray=true)(h:QsOk X l.toArray l (Q .normal) σ):AWp X (.region id l.toArray true) Q σ:=fun a w hr=>
 QgM hm hB (by
  have:=h a w hr
  refine Xi (fun a' ⟨σ',hn,hr'⟩=>?_) _ _ this
  exact fun w' hw'=>⟨σ',hn,hr'.ext hw'⟩)
theorem QxM{ops:Array Oper}{N:AS->Prop}(h:N σ):QsOk X ops [] N σ:=fun _ _ hr=>⟨σ,h,hr⟩
theorem QoM{ops:Array Oper}{N:AS->Prop}{o:Oper}{l:List Oper}(hg:o.guard=none)(h:QOk X o σ (QsOk X ops l N)):QsOk X ops (o::l) N σ:=fun a w hr=>by
 unfold wpQuiet
 simp only[Region.wanted,hg,if_true]
 exact Oper.quiet_mono (fun a' ⟨σ',hk,hr'⟩=>hk a' w hr') (h a w hr)
theorem Qpv{ops:Array Oper}{N:AS->Prop}{o:Oper}{l:List Oper}{j d:Nat}{t:Bool}(hg:o.guard=some (j,t))(hd:(ops[j]?).bind (·.dst)=some d)(hv:look σ.sl d=.d (.b t))(h:QOk X o σ (QsOk X ops l N)):QsOk X ops (o::l) N σ:=fun a w hr=>by
 have c:=hr
 obtain⟨en,e⟩:=hr
 have f:yielded ops a.tmps j=some t:=by
  unfold yielded
  rw[hd,Xbc,e.tmp_some hv]
 unfold wpQuiet
 simp only[Region.wanted,hg,f,beq_self_eq_true,if_true]
 exact Oper.quiet_mono (fun a' ⟨σ',hk,hr'⟩=>hk a' w hr') (h a w c)
theorem Qyd{ops:Array Oper}{N:AS->Prop}{o:Oper}{l:List Oper}{j d s:Nat}{t t':Bool}(hg:o.guard=some (j,t))(hd:(ops[j]?).bind (·.dst)=some d)(hv:look σ.sl d=.d (.b t'))(hne:(t'==t)=false)(hs:o.dst=some s)(ht:Nat.blt s σ.nt=true)
  (h:QsOk X ops l N (σ.put s (.tup []))):QsOk X ops (o::l) N σ:=fun a w hr=>by
 obtain⟨f,e⟩:=hr
 have g:yielded ops a.tmps j=some t':=by
  unfold yielded
  rw[hd,Xbc,e.tmp_some hv]
 have c:(some t'==some t)=false:=hne
 unfold wpQuiet
 simp only[Region.wanted,hg,g,c,XaT,if_false,hs]
 exact h _ _ ⟨f,e.put ⟨[],rfl,rfl⟩ ht⟩
theorem QxY{ops:Array Oper}{N:AS->Prop}{o:Oper}{l:List Oper}{j d s:Nat}{t:Bool}(hg:o.guard=some (j,t))(hd:(ops[j]?).bind (·.dst)=some d)(hv:look σ.sl d=.tup [])(hs:o.dst=some s)(ht:Nat.blt s σ.nt=true)
  (h:QsOk X ops l N (σ.put s (.tup []))):QsOk X ops (o::l) N σ:=fun a w hr=>by
 obtain⟨g,e⟩:=hr
 have m:yielded ops a.tmps j=none:=by
  unfold yielded
  rw[hd,Xbc]
  have f:=e.slots d
  rw[hv]at f
  obtain⟨n,c,i⟩:=f
  rw[show n=[] from i,Array.getD_eq_getD_getElem?]at c
  cases k:a.tmps[d]? with
  | none=>rfl
  | some v=>rw[k]at c;simp only[XaJ]at c;rw[c]
 have b:((none:Option Bool)==some t)=false:=rfl
 unfold wpQuiet
 simp only[Region.wanted,hg,m,b,XaT,if_false,hs]
 exact h _ _ ⟨g,e.put ⟨[],rfl,rfl⟩ ht⟩
theorem Qqy{ops:Array Oper}{N:AS->Prop}{o:Oper}{l:List Oper}{j d:Nat}{t t':Bool}(_hg:o.guard=some (j,t))(_hd:(ops[j]?).bind (·.dst)=some d)(hv:look σ.sl d=.d (.b t'))
  (h1:t'=true->QsOk X ops (o::l) N (σ.put d (.d (.b true)))) (h2:t'=false->QsOk X ops (o::l) N (σ.put d (.d (.b false)))):QsOk X ops (o::l) N σ:=fun a w hr=>by
 obtain⟨g,h⟩:=hr
 have c:∀(t'':Bool),t'=t''->Rel X (σ.put d (.d (.b t''))) a w:=fun t'' e=>by
  subst e
  refine⟨g,h.mem,h.ob,h.defers,h.size,fun s=>?_⟩
  simp only[AS.put,QQ]
  split
  ·rename_i i
   subst i
   rw[<-hv]
   exact h.slots d
  ·exact h.slots s
 cases f:t' with
 | true=>exact h1 f a w (c true f)
 | false=>exact h2 f a w (c false f)
end

section
variable {X:Cx} {σ:AS} {o:Oper} {K:AS->Prop} {t:Nat}
theorem Jm{v:AV}(hd:o.dst=some t)(ht:Nat.blt t σ.nt=true)(h:∀a w en,J2 X σ a w en->∃u,(∀w',Ext w w'->(execOp a.eval o).run X.P w'=.ok (.value u) w')/\v.shows w en (IM X en w) u)
  (hK:K (σ.put t v)):QOk X o σ K:=by
 intro a w e
 obtain⟨en,b⟩:=e
 obtain⟨u,c,d⟩:=h a w en b
 refine⟨u,fun w' hw'=>?_,σ.put t v,hK,en,?_⟩
 ·unfold Oper.quietAt
  rw[c w' hw']
  exact⟨rfl,rfl⟩
 ·rw[hd]
  exact b.put d ht
theorem QoT{v:AV}{x:Operand}(ho:o.op=.move x)(hd:o.dst=some t)(hx:σ.ev x=v)(ht:Nat.blt t σ.nt=true)(hK:K (σ.put t v)):QOk X o σ K:=
 Jm hd ht (fun a w en h=>⟨_,fun w' _=>by simp only[execOp,ho];rfl,QT h hx⟩) hK
theorem QhP{v:AV}{x:Operand}(ho:o.op=.assign x)(hd:o.dst=some t)(hx:σ.ev x=v)(ht:Nat.blt t σ.nt=true)(hK:K (σ.put t v)):QOk X o σ K:=
 Jm hd ht (fun a w en h=>⟨_,fun w' _=>by simp only[execOp,ho];rfl,QT h hx⟩) hK
theorem QkA{p off:Nat}{x:Operand}(ho:o.op=.nilCheck x)(hd:o.dst=some t)(hx:σ.ev x=.ptr p off)(ht:Nat.blt t σ.nt=true)(hK:K (σ.put t (.ptr p off))):QOk X o σ K:=
 Jm hd ht (fun a w en h=>by
  have b:=QT h hx
  have c:=b
  obtain⟨y,_,_,_,g,_,e⟩:=b
  exact⟨_,fun w' _=>by simp only[execOp,ho,e];rfl,e▸c⟩) hK
theorem Qh1{e:List D}{off:Nat}{x:Operand}(ho:o.op=.nilCheck x)(hd:o.dst=some t)(hx:σ.ev x=.pd e off)(ht:Nat.blt t σ.nt=true)(hK:K (σ.put t (.pd e off))):QOk X o σ K:=
 Jm hd ht (fun a w en h=>by
  have c:=QT h hx
  obtain⟨b,q,us,F,d,_⟩:=id c
  refine⟨a.eval x,fun w' _=>?_,c⟩
  simp only[execOp,ho,d]
  rfl) hK
theorem Qi4{g:FuncId}{xs:List AV}{x:Operand}(ho:o.op=.nilCheck x)(hd:o.dst=some t)(hx:σ.ev x=.clo g xs)(ht:Nat.blt t σ.nt=true)(hK:K (σ.put t (.clo g xs))):QOk X o σ K:=
 Jm hd ht (fun a w en h=>by
  have b:=QT h hx
  obtain⟨us,c,_⟩:=id b
  refine⟨a.eval x,fun w' _=>?_,b⟩
  simp only[execOp,ho,c]
  rfl) hK
theorem QlC{en:List Ent}{a:Act}{w:World}(h:J2 X σ a w en):∀(l:List Operand),Qn w en (IM X en w) (l.map σ.ev) (l.map a.eval)
 | []=>rfl
 | x::l=>⟨_,_,rfl,AS.ev_shows h x,QlC h l⟩
theorem QkV{g:FuncId}{cs:Array Operand}{xs:List AV}(ho:o.op=.makeFunc (.func g) #[] cs)(hd:o.dst=some t)(hx:cs.toList.map σ.ev=xs)(ht:Nat.blt t σ.nt=true)(hK:K (σ.put t (.clo g xs))):QOk X o σ K:=
 Jm hd ht (fun a w en h=>by
  refine⟨.func (.func g) #[] (cs.map a.eval),fun w' _=>?_,(cs.toList.map a.eval),?_,?_⟩
  ·simp only[execOp,ho,Instr.makeFunc]
   simp[Sem.run_pure]
  ·congr 1
   cases cs;simp
  ·rw[<-hx]
   exact QlC h _) hK
theorem QqY{v:AV}{c x y:Operand}{q:Bool}(ho:o.op=.pick c x y)(hd:o.dst=some t)(hc:σ.ev c=.d (.b q))(hx:(bif q then σ.ev x else σ.ev y)=v)(ht:Nat.blt t σ.nt=true)(hK:K (σ.put t v)):QOk X o σ K:=
 Jm hd ht (fun a w en h=>by
  obtain⟨F,⟨e,_⟩,_⟩:=QT h hc
  cases q with
  | true=>exact⟨a.eval x,fun w' _=>by simp only[execOp,ho,e];rfl,QT h hx⟩
  | false=>exact⟨a.eval y,fun w' _=>by simp only[execOp,ho,e];rfl,QT h hx⟩) hK
theorem Qm7{v:AV}{x:Operand}{xs:List AV}{i:Nat}(ho:o.op=.extract x i)(hd:o.dst=some t)(hx:σ.ev x=.tup xs)(hi:xs[i]?=some v)(ht:Nat.blt t σ.nt=true)(hK:K (σ.put t v)):QOk X o σ K:=
 Jm hd ht (fun a w en h=>by
  obtain⟨us,e,f⟩:=QT h hx
  obtain⟨u,c,d⟩:=WF f hi
  exact⟨u,fun w' _=>by simp[execOp,ho,e,Instr.extract,c,Sem.run_pure],d⟩) hK

def binI(op:BinOp)(k:IntKind)(x y:Int):Option D:=
 match op with
 | .add=>some (.n k (k.wrap (x+y)))
 | .sub=>some (.n k (k.wrap (x-y)))
 | .mul=>some (.n k (k.wrap (x*y)))
 | .eql=>some (.b (x==y))
 | .neq=>some (.b (x != y))
 | .lss=>some (.b (decide (x<y)))
 | .leq=>some (.b (decide (x<=y)))
 | .gtr=>some (.b (decide (y<x)))
 | .geq=>some (.b (decide (y<=x)))
 | .quo=>if y=0 then none else some (.n k (k.wrap (x.tdiv y)))
 | .rem=>if y=0 then none else some (.n k (x.tmod y))
 | _=>none
theorem Qmw{P:Program}{op:BinOp}{k:IntKind}{p q:Int}{d:D}(h:binI op k p q=some d)(xt:TypeId)(x y:Operand)(w:World) :
  ∃u,(do eqGuard op xt x y (.int k p) (.int k q);binOp op xt (.int k p) (.int k q):Sem Value).run P w=.ok u w/\d.rep w u []:=by
 have b:(eqGuard op xt x y (.int k p) (.int k q)).run P w=.ok () w:=by
  cases op <;> rfl
 simp only[Sem.run_bind,b,Result.andThen]
 cases op <;> simp only[binI,reduceCtorEq]at h
 case quo=>
  split at h
  ·cases h
  ·rename_i a
   injection h with h
   subst h
   exact⟨_,by simp[binOp,Op.intDiv,a,Sem.run_pure],rfl,rfl⟩
 case rem=>
  split at h
  ·cases h
  ·rename_i a
   injection h with h
   subst h
   exact⟨_,by simp[binOp,Op.intDiv,a,Sem.run_pure],rfl,rfl⟩
 all_goals
  injection h with h
  subst h
  exact⟨_,by simp[binOp,Op.intArith,Op.intCmp,Sem.run_pure],rfl,rfl⟩
theorem XL{op:BinOp}{k:IntKind}{p q:Int}{d:D}{xt yt:TypeId}{x y:Operand}(ho:o.op=.binOp op xt x y yt)(hd:o.dst=some t)(hx:σ.ev x=.d (.n k p))(hy:σ.ev y=.d (.n k q))
  (hb:binI op k p q=some d) (ht:Nat.blt t σ.nt=true) (hK:K (σ.put t (.d d))):QOk X o σ K:=
 Jm hd ht (fun a w en h=>by
  obtain⟨F,⟨c,_⟩,_⟩:=QT h hx
  obtain⟨G,⟨f,_⟩,_⟩:=QT h hy
  obtain⟨u,h1,b⟩:=Qmw (P:=X.P) hb xt x y w
  refine⟨u,fun w' _=>?_,[],b,by simp⟩
  obtain⟨j,g,i⟩:=Qmw (P:=X.P) hb xt x y w'
  have e:j=u:=by cases d <;> first|exact i.1.trans b.1.symm|(exfalso;cases op <;> simp[binI]at hb <;> (first|(split at hb <;> cases hb)|cases hb))
  subst e
  simp only[execOp,ho,c,f]
  rw[Sem.run_bind,g]
  rfl) hK
section num
variable {p q:Int} {xt yt:TypeId} {x y:Operand}
theorem Qud(ho:o.op=.binOp .add xt x y yt)(hd:o.dst=some t)(hx:σ.ev x=.d (.n .i64 p))(hy:σ.ev y=.d (.n .i64 q))(hb : -9223372036854775808<=p+q/\p+q<=9223372036854775807)
  (ht:Nat.blt t σ.nt=true) (hK:K (σ.put t (.d (.n .i64 (p+q))))):QOk X o σ K:=
 XL ho hd hx hy (by simp only[binI,IntWalk.i64_in _ hb]) ht hK
theorem Qun(ho:o.op=.binOp .sub xt x y yt)(hd:o.dst=some t)(hx:σ.ev x=.d (.n .i64 p))(hy:σ.ev y=.d (.n .i64 q))(hb : -9223372036854775808<=p-q/\p-q<=9223372036854775807)
  (ht:Nat.blt t σ.nt=true) (hK:K (σ.put t (.d (.n .i64 (p-q))))):QOk X o σ K:=
 XL ho hd hx hy (by simp only[binI,IntWalk.i64_in _ hb]) ht hK
theorem Qw0(ho:o.op=.binOp .mul xt x y yt)(hd:o.dst=some t)(hx:σ.ev x=.d (.n .i64 p))(hy:σ.ev y=.d (.n .i64 q))(hb : -9223372036854775808<=p*q/\p*q<=9223372036854775807)
  (ht:Nat.blt t σ.nt=true) (hK:K (σ.put t (.d (.n .i64 (p*q))))):QOk X o σ K:=
 XL ho hd hx hy (by simp only[binI,IntWalk.i64_in _ hb]) ht hK
theorem Qw5(ho:o.op=.binOp .quo xt x y yt)(hd:o.dst=some t)(hx:σ.ev x=.d (.n .i64 p))(hy:σ.ev y=.d (.n .i64 q))(hb:0<=p/\p<=9223372036854775807/\0<q)
  (ht:Nat.blt t σ.nt=true) (hK:K (σ.put t (.d (.n .i64 (p / q))))):QOk X o σ K:=
 XL ho hd hx hy (by
  have a:p.tdiv q=p / q:=Int.tdiv_eq_ediv_of_nonneg hb.1
  have h2:0<=p / q:=Int.ediv_nonneg hb.1 (by omega)
  have h3:p / q<=p:=Int.ediv_le_self q hb.1
  simp only[binI]
  rw[if_neg (by omega),a,IntWalk.i64_in _ (by omega)]) ht hK
theorem QwT(ho:o.op=.binOp .rem xt x y yt)(hd:o.dst=some t)(hx:σ.ev x=.d (.n .i64 p))(hy:σ.ev y=.d (.n .i64 q))(hb:0<=p/\0<q)
  (ht:Nat.blt t σ.nt=true) (hK:K (σ.put t (.d (.n .i64 (p % q))))):QOk X o σ K:=
 XL ho hd hx hy (by
  have a:p.tmod q=p % q:=Int.tmod_eq_emod_of_nonneg hb.1
  simp only[binI]
  rw[if_neg (by omega),a]) ht hK
theorem Qwb{k k':IntKind}{r:Int}{src dst:TypeId}[td:TI X.P dst][ts:TI X.P src](ho:o.op=.convert src dst x)(hd:o.dst=some t)(hx:σ.ev x=.d (.n k p))(hk:td.desc=.int k')(hr:k'.wrap p=r)
  (ht:Nat.blt t σ.nt=true) (hK:K (σ.put t (.d (.n k' r)))):QOk X o σ K:=
 Jm hd ht (fun a w en h=>by
  obtain⟨F,⟨c,_⟩,_⟩:=QT h hx
  have b:=td.und
  rw[hk]at b
  refine⟨.int k' r,fun w' _=>?_,[],⟨rfl,rfl⟩,by simp⟩
  simp only[execOp,ho,c,convert,Sem.run_bind,run_underlying ts.und,run_underlying b,Result.andThen,Conv.intToInt,hr]
  rfl) hK
end num
theorem QxQ{q:Bool}{xt:TypeId}{x:Operand}(ho:o.op=.unOp .not xt x)(hd:o.dst=some t)(hx:σ.ev x=.d (.b q))(ht:Nat.blt t σ.nt=true)(hK:K (σ.put t (.d (.b (!q))))):QOk X o σ K:=
 Jm hd ht (fun a w en h=>by
  obtain⟨F,⟨c,_⟩,_⟩:=QT h hx
  refine⟨.bool (!q),fun w' _=>?_,[],⟨rfl,rfl⟩,by simp⟩
  simp only[execOp,ho,c,Op.unary]
  rfl) hK
theorem Qx7{q r:Bool}{xt yt:TypeId}{x y:Operand}[ti:TI X.P xt](hti:ti.desc=.bool)(ho:o.op=.binOp .eql xt x y yt)(hd:o.dst=some t)(hx:σ.ev x=.d (.b q))(hy:σ.ev y=.d (.b r))(ht:Nat.blt t σ.nt=true)(hK:K (σ.put t (.d (.b (q==r))))):QOk X o σ K:=
 Jm hd ht (fun a w en h=>by
  obtain⟨F,⟨e,_⟩,_⟩:=QT h hx
  obtain⟨G,⟨f,_⟩,_⟩:=QT h hy
  have c:=ti.und
  rw[hti]at c
  refine⟨.bool (q==r),fun w' _=>?_,[],⟨rfl,rfl⟩,by simp⟩
  have g:(Op.equal xt (.bool q) (.bool r)).run X.P w'=.ok (q==r) w':=run_equalIn_bool' w' 9999 xt q r c
  have i:(binOp .eql xt (.bool q) (.bool r)).run X.P w'=.ok (.bool (q==r)) w':=by
   rw[show binOp .eql xt (.bool q) (.bool r)=(do let b <-Op.equal xt (.bool q) (.bool r);pure (.bool b)) from rfl,Sem.run_bind,g]
   rfl
  have j:(eqGuard .eql xt x y (.bool q) (.bool r)).run X.P w'=.ok () w':=rfl
  simp only[execOp,ho,e,f,Sem.run_bind,j,Result.andThen,i]
  rfl) hK
theorem Qxx{q r:Bool}{xt yt:TypeId}{x y:Operand}[ti:TI X.P xt](hti:ti.desc=.bool)(ho:o.op=.binOp .neq xt x y yt)(hd:o.dst=some t)(hx:σ.ev x=.d (.b q))(hy:σ.ev y=.d (.b r))(ht:Nat.blt t σ.nt=true)(hK:K (σ.put t (.d (.b (q != r))))):QOk X o σ K:=
 Jm hd ht (fun a w en h=>by
  obtain⟨F,⟨e,_⟩,_⟩:=QT h hx
  obtain⟨G,⟨f,_⟩,_⟩:=QT h hy
  have c:=ti.und
  rw[hti]at c
  refine⟨.bool (q != r),fun w' _=>?_,[],⟨rfl,rfl⟩,by simp⟩
  have g:(Op.equal xt (.bool q) (.bool r)).run X.P w'=.ok (q==r) w':=run_equalIn_bool' w' 9999 xt q r c
  have i:(binOp .neq xt (.bool q) (.bool r)).run X.P w'=.ok (.bool (q != r)) w':=by
   rw[show binOp .neq xt (.bool q) (.bool r)=(do let b <-Op.equal xt (.bool q) (.bool r);pure (.bool (!b))) from rfl,Sem.run_bind,g]
   rfl
  have j:(eqGuard .neq xt x y (.bool q) (.bool r)).run X.P w'=.ok () w':=rfl
  simp only[execOp,ho,e,f,Sem.run_bind,j,Result.andThen,i]
  rfl) hK

section str
variable {l r:List UInt8} {xt yt:TypeId} {x y:Operand}
theorem QxA(ho:o.op=.binOp .add xt x y yt)(hd:o.dst=some t)(hx:σ.ev x=.d (.s l))(hy:σ.ev y=.d (.s r))(hb:l.length+r.length<=9223372036854775807)(ht:Nat.blt t σ.nt=true)(hK:K (σ.put t (.d (.s (l++r))))):QOk X o σ K:=
 Jm hd ht (fun a w en h=>by
  obtain⟨F,⟨c,_⟩,_⟩:=QT h hx
  obtain⟨G,⟨e,_⟩,_⟩:=QT h hy
  refine⟨.string ⟨(l++r).toArray⟩,fun w' _=>?_,[],⟨rfl,rfl⟩,by simp⟩
  have b:(Op.stringOp .add ⟨l.toArray⟩ ⟨r.toArray⟩).run X.P w'=.ok (.string (⟨l.toArray⟩++⟨r.toArray⟩)) w':=run_string_add_sum w' _ _ (by simpa [ByteArray.size] using hb)
  rw[ByteArray.mk_append_mk]at b
  have f:(eqGuard .add xt x y (.string ⟨l.toArray⟩) (.string ⟨r.toArray⟩)).run X.P w'=.ok () w':=rfl
  simp only[execOp,ho,c,e,Sem.run_bind,f,Result.andThen,binOp,b]
  rfl) hK
theorem Qyf(ho:o.op=.binOp .eql xt x y yt)(hd:o.dst=some t)(hx:σ.ev x=.d (.s l))(hy:σ.ev y=.d (.s r))(ht:Nat.blt t σ.nt=true)(hK:K (σ.put t (.d (.b (l==r))))):QOk X o σ K:=
 Jm hd ht (fun a w en h=>by
  obtain⟨F,⟨c,_⟩,_⟩:=QT h hx
  obtain⟨G,⟨e,_⟩,_⟩:=QT h hy
  refine⟨.bool (l==r),fun w' _=>?_,[],⟨rfl,rfl⟩,by simp⟩
  simp[execOp,ho,c,e,eqGuard,binOp,Op.stringOp,Sem.run_pure]) hK
theorem QwW(ho:o.op=.binOp .neq xt x y yt)(hd:o.dst=some t)(hx:σ.ev x=.d (.s l))(hy:σ.ev y=.d (.s r))(ht:Nat.blt t σ.nt=true)(hK:K (σ.put t (.d (.b (l != r))))):QOk X o σ K:=
 Jm hd ht (fun a w en h=>by
  obtain⟨F,⟨c,_⟩,_⟩:=QT h hx
  obtain⟨G,⟨e,_⟩,_⟩:=QT h hy
  refine⟨.bool (l != r),fun w' _=>?_,[],⟨rfl,rfl⟩,by simp⟩
  simp[execOp,ho,c,e,eqGuard,binOp,Op.stringOp,Sem.run_pure,bne]) hK
theorem Qyi{p:Int}[ti:TI X.P xt](hti:ti.desc=.string)(ho:o.op=.index xt x y)(hd:o.dst=some t)(hx:σ.ev x=.d (.s l))(hy:σ.ev y=.d (.n .i64 p))(hb:0<=p/\p<l.length)(ht:Nat.blt t σ.nt=true)
  (hK:K (σ.put t (.d (.n .u8 (l.getD p.toNat 0).toNat)))):QOk X o σ K:=
 Jm hd ht (fun a w en h=>by
  obtain⟨F,⟨f,_⟩,_⟩:=QT h hx
  obtain⟨G,⟨g,_⟩,_⟩:=QT h hy
  have e:=ti.und
  rw[hti]at e
  refine⟨.int .u8 (l.getD p.toNat 0).toNat,fun w' _=>?_,[],⟨rfl,rfl⟩,by simp⟩
  have b:p.toNat<l.length:=by omega
  have c:=run_index_string (P:=X.P) w' xt ⟨l.toArray⟩ .i64 p e
  rw[dif_pos (by simpa [ByteArray.size] using hb)]at c
  simp only[execOp,ho,f,g,Sem.run_bind,c,Result.andThen]
  have i:(⟨l.toArray⟩:ByteArray)[p.toNat]'(by simpa [ByteArray.size] using b)=l.getD p.toNat 0:=by
   show l.toArray[p.toNat]'(by simpa using b)=_
   simp[List.getD,b]
  rw[i]
  rfl) hK
end str
end

def AV.leaf:AV->Bool
 | .d _|.nil|.row _|.ptr _ _|.pr _ _ _|.pd _ _|.clo _ _|.sub _ _ _=>true
 | _=>false
def AV.cellsV:AV->Option (List AV)
 | .agg xs=>bif xs.all AV.leaf then some xs else none
 | .d x=>some [.d x]
 | .nil=>some [.nil]
 | .row o=>some [.row o]
 | .ptr o i=>some [.ptr o i]
 | .pr o i j=>some [.pr o i j]
 | .pd e i=>some [.pd e i]
 | .clo g xs=>some [.clo g xs]
 | .sub o i j=>some [.sub o i j]
 | _=>none
theorem JK{w:World}{base e z n:Nat}{v:Value}{us:List Value}(h:w.ownsRow base e z v n us):∃A c,v=.slice A n c/\n<=c/\c<=maxLen/\(A=none->c=0)/\(0<n->∃g,A=some ⟨g,0,none⟩):=by
 rcases h.2 with ⟨hv,hn⟩|⟨g,cap,cur,hv,_,_,h1,h2,_⟩
 ·subst hn
  exact⟨none,0,hv,Xaj _,Xae _,fun _=>rfl,fun h=>absurd h (by omega)⟩
 ·exact⟨_,cap,hv,h1,h2,(fun e=>by cases e),fun _=>⟨g,rfl⟩⟩
theorem QiY{u:Value}(h:u.oneCell'=true):u.cells=#[u]:=by
 cases u <;> first|rfl|(simp[Value.oneCell']at h)
section
variable {P:Program} {w0:World} {f:Nat->Bool} {Z:ZV f} {O:Nat->Prop} {en:List Ent} {w:World}
theorem QlE(hm:Mem P w0 Z O en w){I:Nat->Prop}:∀{x:AV} {u:Value},x.leaf=true->x.shows w en I u->u.oneCell'=true/\u.cells=#[u]
 | .d x,u,_,h=>by
  obtain⟨F,h,_⟩:=h
  cases x with
  | n k x=>obtain⟨rfl,_⟩:=h;exact⟨rfl,rfl⟩
  | b t=>obtain⟨rfl,_⟩:=h;exact⟨rfl,rfl⟩
  | s l=>obtain⟨rfl,_⟩:=h;exact⟨rfl,rfl⟩
  | sl es=>obtain⟨A,cap,z,us,F',rfl,_⟩:=h;exact⟨rfl,rfl⟩
  | un=>exact⟨h.1,QiY h.1⟩
 | .nil,u,_,h=>by rw[show u=.slice none 0 0 from h];exact⟨rfl,rfl⟩
 | .row o,u,_,h=>by
  obtain⟨x,hx,_,h1,rfl⟩:=h
  have h2:=hm.ok x hx
  unfold EntOk at h2
  split at h2
  ·obtain⟨z,us,_,_,h3,_⟩:=h2
   obtain⟨A,c,h4,_⟩:=JK h3
   rw[h4];exact⟨rfl,rfl⟩
  ·rename_i hb
   rw[hb]at h1;cases h1
 | .ptr o off,u,_,h=>by obtain⟨x,hx,_,h1,g,h2,rfl⟩:=h;exact⟨rfl,rfl⟩
 | .pr o i off,u,_,h=>by obtain⟨x,hx,_,h1,g,z,h2,h3,h4,rfl⟩:=h;exact⟨rfl,rfl⟩
 | .pd e off,u,_,h=>by obtain⟨b,o,us,F,rfl,_⟩:=h;exact⟨rfl,rfl⟩
 | .clo g xs,u,_,h=>by obtain⟨us,rfl,_⟩:=h;exact⟨rfl,rfl⟩
 | .sub o i j,u,_,h=>by obtain⟨x,hx,_,h1,h2,A,n,c,z,h3,h4,rfl⟩:=h;exact⟨rfl,rfl⟩
theorem Qf4(hm:Mem P w0 Z O en w){I:Nat->Prop}:∀{xs:List AV} {us:List Value},xs.all AV.leaf=true->Qn w en I xs us->∀u∈us,u.oneCell'=true
 | [],us,_,h,u,hu=>by rw[show us=[] from h]at hu;cases hu
 | x::xs,us,hl,h,u,hu=>by
  obtain⟨v,us',rfl,h1,h2⟩:=h
  simp only[XcG,Xac]at hl
  rcases Xai.1 hu with rfl|hu
  ·exact(QlE hm hl.1 h1).1
  ·exact Qf4 hm hl.2 h2 u hu
theorem YH(hm:Mem P w0 Z O en w){I:Nat->Prop}{x:AV}{xs:List AV}{u:Value}(hx:x.cellsV=some xs)(h:x.shows w en I u):Qn w en I xs u.cells.toList/\∀v∈u.cells.toList,v.oneCell'=true:=by
 have a:x.leaf=true->xs=[x]->Qn w en I xs u.cells.toList/\∀v∈u.cells.toList,v.oneCell'=true:=fun b e=>by
  obtain⟨c,f⟩:=QlE hm b h
  rw[f,e]
  exact⟨⟨u,[],rfl,h,rfl⟩,by simpa using c⟩
 cases x with
 | agg ys=>
  obtain⟨us,rfl,c⟩:=h
  simp only[AV.cellsV]at hx
  cases b:ys.all AV.leaf with
  | false=>rw[b]at hx;cases hx
  | true=>
   rw[b]at hx
   injection hx with hx
   subst hx
   exact⟨by simpa [Value.cells] using c,by simpa [Value.cells] using Qf4 hm b c⟩
 | any=>cases hx
 | tup ys=>cases hx
 | d y=>injection hx with hx;exact a rfl hx.symm
 | nil=>injection hx with hx;exact a rfl hx.symm
 | row y=>injection hx with hx;exact a rfl hx.symm
 | ptr y z=>injection hx with hx;exact a rfl hx.symm
 | pr y z q=>injection hx with hx;exact a rfl hx.symm
 | pd y z=>injection hx with hx;exact a rfl hx.symm
 | clo y z=>injection hx with hx;exact a rfl hx.symm
 | sub y z q=>injection hx with hx;exact a rfl hx.symm
end

def AS.at(σ:AS):AV->Option (List AV)
 | .ptr o off=>match Ql σ.ob o with
  | some (.box _ cs)=>some (cs.drop off)
  | _=>none
 | .pd e off=>some ((e.drop off).map AV.d)
 | .pr o i off=>match Ql σ.ob o with
  | some (.row _ es dp)=>match es[i]? with
   | some el=>bif (bif dp then el.all D.flat else true)then some ((el.drop off).map AV.d)else none
   | none=>none
  | _=>none
 | _=>none
def J5:TypeDesc->Bool
 | .struct _|.array _ _=>true
 | _=>false
theorem Zc{w:World}:∀{ds:List D} {us:List Value} {F:List Nat},repL w ds us F->∀k,∃G,repL w (ds.drop k) (us.drop k) G/\∀b∈G,b∈F
 | [],us,F,h,k=>by obtain⟨rfl,rfl⟩:=h;exact⟨[],by simp[repL],by simp⟩
 | d::ds,us,F,h,k=>by
  cases k with
  | zero=>exact⟨F,h,fun b hb=>hb⟩
  | succ k=>
   obtain⟨u,us',F1,F2,rfl,rfl,h1,h2⟩:=h
   obtain⟨G,h3,h4⟩:=Zc h2 k
   exact⟨G,by simpa using h3,fun b hb=>Xav _ (h4 b hb)⟩
theorem Qdb{X:Cx}{σ:AS}{a:Act}{w:World}{en:List Ent}(h:J2 X σ a w en){x:AV}{xs:List AV}{u:Value}(hx:σ.at x=some xs)(hs:x.shows w en (IM X en w) u) :
  ∃b o us,u=.pointer (some ⟨b,o,none⟩)/\Qn w en (IM X en w) xs us/\∀j v,us[j]?=some v->w.cell? ⟨b,o+j,none⟩=some v:=by
 cases x with
 | ptr o off=>
  simp only[AS.at]at hx
  split at hx
  ·rename_i e cs hl
   injection hx with hx
   subst hx
   obtain⟨y,hy,rfl,n⟩:=h.ent hl
   obtain⟨y',d,e1,h2,g,f,rfl⟩:=hs
   have:=h.mem.ent_unique d hy e1
   subst this
   have k:=h.mem.ok y' d
   unfold EntOk at k
   rw[n]at k
   obtain⟨_,g',ad,q,_,m,p⟩:=k
   rw[q]at f
   simp only[blk,Xak]at f
   subst f
   refine⟨g',off,ad.toList.drop off,rfl,WN p off,fun j v hj=>?_⟩
   rw[cell_of_row _ _ _ _ _ _ m,<-hj]
   simp
  ·cases hx
 | pd e off=>
  simp only[AS.at]at hx
  injection hx with hx
  subst hx
  obtain⟨b,o,us,F,rfl,n,h2,f,k⟩:=hs
  obtain⟨G,q,m⟩:=Zc n off
  refine⟨b,o+off,us.drop off,rfl,WA q (fun b hb=>k b (m b hb)),fun j v hj=>?_⟩
  rw[XbH]
  exact h2 _ _ (by rw[<-hj];simp)
 | pr o i off=>
  simp only[AS.at]at hx
  split at hx
  ·rename_i e es dp hl
   split at hx
   ·rename_i el r
    have s:(bif dp then el.all D.flat else true)=true:=by
     cases hq:(bif dp then el.all D.flat else true) with
     | true=>rfl
     | false=>rw[hq]at hx;cases hx
    rw[s]at hx
    injection hx with hx
    subst hx
    obtain⟨y,hy,rfl,n⟩:=h.ent hl
    obtain⟨y',d,e1,h2,g,z,f,k,q,rfl⟩:=hs
    have:=h.mem.ent_unique d hy e1
    subst this
    have m:=h.mem.ok y' d
    unfold EntOk at m
    rw[n]at m
    obtain⟨z',us,_,_,p,h8,h9,ah,_⟩:=m
    rw[n]at k q
    have hz:∀e∈es,e.length=z:=fun e he=>k _ (Xaf.2 ⟨e,he,rfl⟩)
    obtain⟨vs,G,g1,g2,g3⟩:=QgN h9 hz r
    obtain⟨G2,g4,g5⟩:=Zc g1 off
    refine⟨g,i*z+off,vs.drop off,rfl,WA g4 (fun b hb=>by
     cases dp with
     | false=>exact ah rfl b (g2 b (g5 b hb))
     | true=>
      rw[JF g1 s]at g5
      exact absurd (g5 b hb) (by simp)),fun j v hj=>?_⟩
    have ab:0<es.length:=Nat.lt_of_le_of_lt (Xae _) (List.getElem?_eq_some_iff.1 r).1
    have al:z'=z:=by
     have e0:=Xbm ab
     exact(h8 _ e0).symm.trans (hz _ e0)
    subst al
    obtain⟨A,c,k1,k2,k3,k4,k5⟩:=JK p
    obtain⟨g',k6⟩:=k5 ab
    rw[k1,k6]at f p
    simp only[blk,Xak]at f
    subst f
    have aa:us[i*z'+(off+j)]?=some v:=g3 _ _ (by rw[<-hj];simp)
    have l:=(List.getElem?_eq_some_iff.1 aa).1
    rw[p.1]at l
    rw[show i*z'+off+j=i*z'+(off+j) by omega,p.cellAt _ l]
    exact aa
   ·cases hx
  ·cases hx
 | _=>cases hx
section
variable {X:Cx} {σ:AS} {o:Oper} {K:AS->Prop} {t:Nat}
theorem QlK{T:TypeId}{x:Operand}{v:AV}[ti:TI X.P T](ho:o.op=.load T x)(hd:o.dst=some t)(hx:(σ.at (σ.ev x)).bind (·[0]?)=some v)(ha:J5 ti.desc=false)(ht:Nat.blt t σ.nt=true)(hK:K (σ.put t v)):QOk X o σ K:=
 Jm hd ht (fun a w en h=>by
  cases d:σ.at (σ.ev x) with
  | none=>rw[d]at hx;cases hx
  | some xs=>
   rw[d]at hx
   obtain⟨b,m,us,e,g,i⟩:=Qdb h d (AS.ev_shows h x)
   obtain⟨u,j,k⟩:=WF g hx
   refine⟨u,fun w' hw'=>?_,k⟩
   have f:=hw'.cell (i _ _ j)
   have c:(isAgg T).run X.P w'=.ok false w':=by
    unfold isAgg
    rw[Sem.run_bind,run_underlying ti.und w']
    cases l:ti.desc <;> simp_all[J5,Sem.run_pure]
   simp only[execOp,ho,e,Instr.loadAt,Instr.sureAddr,loadVar,Sem.run_bind,Sem.run_pure,Result.andThen_ok,c,XaT,if_false,run_load]
   simp only[XbK]at f
   rw[f]
   rfl) hK
theorem Qly{T:TypeId}{x:Operand}{xs:List AV}[ti:TI X.P T](ho:o.op=.load T x)(hd:o.dst=some t)(hx:(σ.at (σ.ev x)).map (List.take ti.size)=some xs)(hl:Nat.beq xs.length ti.size=true)(ha:J5 ti.desc=true)(ht:Nat.blt t σ.nt=true)(hK:K (σ.put t (.agg xs))):QOk X o σ K:=
 Jm hd ht (fun a w en h=>by
  cases f:σ.at (σ.ev x) with
  | none=>rw[f]at hx;cases hx
  | some ys=>
   rw[f]at hx
   simp only[XaW,Xak]at hx
   obtain⟨b,g,i,e,k,l⟩:=Qdb h f (AS.ev_shows h x)
   have d:=We k ti.size
   rw[hx]at d
   have c:(i.take ti.size).length=ti.size:=(QD d).trans ((Qg _ _).1 hl)
   refine⟨.agg (i.take ti.size).toArray,fun w' hw'=>?_,_,rfl,d⟩
   have m:=run_loadAt_mid (P:=X.P) w' b g T (i.take ti.size) ti.desc (fun j v hj=>hw'.cell (l j v (by
    rw[List.getElem?_take]at hj
    split at hj
    ·exact hj
    ·cases hj))) ti.und (by cases n:ti.desc <;> simp_all[J5,TypeDesc.isRow]) (by rw[ti.sized,c])
   simp only[execOp,ho,e,Sem.run_bind,m,Result.andThen]
   rfl) hK
theorem Quj{ao:AO}{v:AV}(hd:o.dst=some t)(ht:Nat.blt t σ.nt=true)(hf:YU X.fre t σ.ob=true)
  (h:∀a w en,J2 X σ a w en->∃u:Value,∃fs:List Nat,∃hap:Obj,(execOp a.eval o).run X.P w=.ok (.value u) (w.alloc (hap))/\
   (∀en',(⟨t,ao,u,fs⟩:Ent)∈en'->v.shows (w.alloc hap) en' (IM X en' (w.alloc hap)) u)/\(∀b,blk u=some b->b=w.heap.size)/\
   ((∀(b:Nat),Imm X.w0 X.Z X.O en w b->Imm X.w0 X.Z X.O (⟨t,ao,u,fs⟩::JP (fun _=>true) t en) (w.alloc hap) b)->
    (∀(y:AV) (q:Value),y.shows w en (IM X en w) q->y.shows (w.alloc hap) (⟨t,ao,u,fs⟩::JP (fun _=>true) t en) (IM X (⟨t,ao,u,fs⟩::JP (fun _=>true) t en) (w.alloc hap)) q)->
    EntOk X.P (Frs X.w0 X.O) (w.alloc hap) (⟨t,ao,u,fs⟩::JP (fun _=>true) t en) (IM X (⟨t,ao,u,fs⟩::JP (fun _=>true) t en) (w.alloc hap)) ⟨t,ao,u,fs⟩)/\
   (ao.deep=true->fs=[]))
  (hK:K ⟨σ.nt,(t,v)::σ.sl,(t,ao)::YT t σ.ob⟩):OpOk X o σ K:=by
 intro a w p next Q n
 obtain⟨en,c⟩:=p
 obtain⟨u,fs,hap,i,j,k,l,g⟩:=h a w en c
 have d:∀x∈en,x.nm≠t:=fun x hx e=>by
  have:hasN t σ.ob=true:=Ji.2 ⟨x.key,c.ob.mem_iff.1 (Xaf.2 ⟨x,hx,rfl⟩),e⟩
  rw[(Q9 hf).1]at this;cases this
 have f:Qfi X.P X.w0 X.Z X.O en w (w.alloc hap) t ⟨t,ao,u,fs⟩ (fun _=>true):=
  ⟨c.mem,fun _ _=>rfl,fun _ x hx e=>absurd e (d x hx),rfl,rfl,rfl,by simp,fun b hb _=>Below.heap_alloc w hap b hb,fun b hb=>by
   rcases hb with hb|⟨hd,hb⟩
   ·exact .inl (XbU (k b hb).symm)
   ·exact absurd hb (by rw[g hd];simp),rfl,X.Z.lo _ _ (Q9 hf).2⟩
 have m:=c.swap_keep f (l (fun b hb=>f.imm hb) (fun y q hy=>by have:=f.shows hy;rwa [AV.cut_true]at this)) (fun hd y hy _ hdy b hb=>absurd hb (by rw[show(⟨t,ao,u,fs⟩:Ent).fs=[] from g hd];simp))
 unfold Oper.wp
 rw[i,Oper.upon_value,hd]
 exact n _ _ _ hK ⟨_,m.put (j _ Xaa) ht⟩
theorem YL{w:World}{en:List Ent}{I:Nat->Prop}:∀(us:List Value),Qn w en I (us.map QdZ) us
 | []=>rfl
 | u::us=>by
  refine⟨u,us,rfl,?_,YL us⟩
  unfold QdZ
  split
  ·exact⟨[],⟨rfl,rfl⟩,by simp⟩
  ·exact⟨[],⟨rfl,rfl⟩,by simp⟩
  ·exact⟨[],⟨by rw[Qes],rfl⟩,by simp⟩
  ·rfl
  ·trivial
theorem XU{w w':World}{en en':List Ent}{I I':Nat->Prop}(h:∀(y:AV) (q:Value),y.shows w en I q->y.shows w' en' I' q):∀{xs:List AV} {us:List Value},Qn w en I xs us->Qn w' en' I' xs us
 | [],_,h1=>h1
 | x::xs,us,h1=>by
  obtain⟨u,us',rfl,h2,h3⟩:=h1
  exact⟨u,us',rfl,h x u h2,XU h h3⟩
def VB(z:Value):List AV:=z.cells.toList.map QdZ
theorem QtD{T:TypeId}[ti:TI X.P T](ho:o.op=.alloc T)(hd:o.dst=some t)(hf:YU X.fre t σ.ob=true)(ht:Nat.blt t σ.nt=true)
  (hK:K ⟨σ.nt,(t,.ptr t 0)::σ.sl,(t,.box T (VB ti.zero))::YT t σ.ob⟩):OpOk X o σ K:=
 Quj (ao:=.box T (VB ti.zero)) hd ht hf (fun a w en h=>by
  refine⟨.pointer (some ⟨w.heap.size,0,none⟩),[],.cells ti.zero.cells T,?_,?_,?_,?_,fun h=>by cases h⟩
  ·obtain⟨i,c,d,_⟩:=ti.parts
   simp[execOp,ho,Instr.alloc,zeroValue,typeInfo,c,d,newVar,newRow]
  ·exact fun en' he=>⟨_,he,rfl,rfl,w.heap.size,rfl,rfl⟩
  ·intro b hb;simp only[blk,Xak]at hb;exact hb.symm
  ·intro _ _
   exact⟨rfl,w.heap.size,ti.zero.cells,rfl,.inr h.mem.size,heap_alloc_new w _,YL _⟩) hK
theorem QwV{T:TypeId}{x:Operand}{cs:List AV}(ho:o.op=.box T x)(hd:o.dst=some t)(hx:(σ.ev x).cellsV=some cs)(hf:YU X.fre t σ.ob=true)(ht:Nat.blt t σ.nt=true)
  (hK:K ⟨σ.nt,(t,.ptr t 0)::σ.sl,(t,.box T cs)::YT t σ.ob⟩):OpOk X o σ K:=
 Quj (ao:=.box T cs) hd ht hf (fun a w en h=>by
  obtain⟨c,h2⟩:=YH h.mem hx (AS.ev_shows h x)
  refine⟨.pointer (some ⟨w.heap.size,0,none⟩),[],.cells (a.eval x).cells T,?_,?_,?_,?_,fun h=>by cases h⟩
  ·simp[execOp,ho,Instr.box,newVar,newRow]
  ·exact fun en' he=>⟨_,he,rfl,rfl,w.heap.size,rfl,rfl⟩
  ·intro b hb;simp only[blk,Xak]at hb;exact hb.symm
  ·intro hI d
   exact⟨rfl,w.heap.size,(a.eval x).cells,rfl,.inr h.mem.size,heap_alloc_new w _,XU d c⟩) hK
end

theorem Mem.apart_ne{P:Program}{w0:World}{f:Nat->Bool}{Z:ZV f}{O:Nat->Prop}{en:List Ent}{w:World}(h:Mem P w0 Z O en w){x y:Ent}(hx:x∈en)(hy:y∈en)(he:x.nm≠y.nm)(dx:x.ao.deep=true)(dy:y.ao.deep=true){b:Nat}(hb:b∈x.fs):b∉y.fs:=by
 have:=h.apart
 clear h
 induction en with
 | nil=>cases hx
 | cons a en ih=>
  rw[Xau]at this
  rcases Xai.1 hx with rfl|hx' <;> rcases Xai.1 hy with rfl|hy'
  ·exact absurd rfl he
  ·exact this.1 y hy' dx dy b hb
  ·intro c
   exact this.1 x hx' dy dx b c hb
  ·exact ih hx' hy' this.2
def splice{α:Type}(xs:List α)(k:Nat)(ys:List α):List α:=xs.take k++ys++xs.drop (k+ys.length)
theorem ZP{w:World}{en:List Ent}{I:Nat->Prop}{xs ys:List AV}{us vs:List Value}(h:Qn w en I xs us)(h':Qn w en I ys vs)(k:Nat):Qn w en I (splice xs k ys) (splice us k vs):=by
 unfold splice
 rw[QD h']
 exact Yg (Yg (We h k) h') (WN h _)
theorem YM{P:Program}{w:World}{g off:Nat}{T e:TypeId}{v:Value}{cur:Array Value}(hg:w.heap[g]?=some (.cells cur e (0,0)))(hi:(P.info? T).map (·.size)=some v.cells.size)(hfit:off+v.cells.size<=cur.size)(h1:∀u∈v.cells.toList,u.oneCell'=true) :
  (Instr.storeAt T (.pointer (some ⟨g,off,none⟩)) v).run P w=.ok () (w.setRow g (splice cur.toList off v.cells.toList).toArray):=by
 have b:=run_storeCells_at P g off e v.cells.toList 0 cur w hg (by simpa using hfit) h1
 cases a:P.info? T with
 | none=>simp[a]at hi
 | some i=>
  have c:v.cells.size=i.size:=by simp[a]at hi;omega
  simp only[XbK]at b
  simp[Instr.storeAt,Instr.sureAddr,storeVar,sizeOf,typeInfo,a,c,b,splice]
section
variable {X:Cx} {σ:AS} {o:Oper} {K:AS->Prop} {t:Nat}
theorem Qqs{p:Nat}{ao ao':AO}(hp:Ql σ.ob p=some ao)(hd:o.dst=none)(hrow:ao'.isRow=ao.isRow)(hlens:ao'.lens=ao.lens)(hdeep:ao'.deep=ao.deep)
    (h:∀a w en y,J2 X σ a w en->y∈en->y.nm=p->y.ao=ao->EntOk X.P (Frs X.w0 X.O) w en (IM X en w) y->∃(g:Nat) (cur:Array Value),blk y.val=some g/\(execOp a.eval o).run X.P w=.ok .skip (w.setRow g cur)/\
      ((∀(z:AV) (q:Value),z.shows w en (IM X en w) q->z.shows (w.setRow g cur) (⟨p,ao',y.val,y.fs⟩::JP (fun _=>true) p en) (IM X (⟨p,ao',y.val,y.fs⟩::JP (fun _=>true) p en) (w.setRow g cur)) q)->
       (∀b,IM X en w b->IM X (⟨p,ao',y.val,y.fs⟩::JP (fun _=>true) p en) (w.setRow g cur) b/\Same w (w.setRow g cur) b)->
        EntOk X.P (Frs X.w0 X.O) (w.setRow g cur) (⟨p,ao',y.val,y.fs⟩::JP (fun _=>true) p en) (IM X (⟨p,ao',y.val,y.fs⟩::JP (fun _=>true) p en) (w.setRow g cur)) ⟨p,ao',y.val,y.fs⟩))
    (hK:K ⟨σ.nt,σ.sl,(p,ao')::YT p σ.ob⟩):OpOk X o σ K:=by
  intro a w s next Q r
  obtain⟨en,f⟩:=s
  obtain⟨y,i,c,d⟩:=f.ent hp
  obtain⟨g,cur,k,l,m⟩:=h a w en y f i c d (f.mem.ok y i)
  have j:Qfi X.P X.w0 X.Z X.O en w (w.setRow g cur) p ⟨p,ao',y.val,y.fs⟩ (fun _=>true):=
    ⟨f.mem,fun _ _=>rfl,fun _ x hx e=>by
        have:=f.mem.ent_unique hx i (e.trans c.symm)
        subst this
        exact⟨e.symm,rfl,by rw[d];exact hrow,by rw[d];exact hlens⟩,rfl,rfl,rfl,by simp,
      fun b hb hno=>setRow_other w g b cur (fun e=>hno y i c (e▸k)),fun b hb=>.inr ⟨y,i,c,by
      rcases hb with hb|⟨hd,hb⟩
      · exact .inl hb
      · exact .inr ⟨by rw[d,<-hdeep];exact hd,hb⟩⟩,rfl,c▸f.mem.fix y i⟩
  have n:=f.swap_keep j (m (fun z q hz=>by have:=j.shows hz;rwa [AV.cut_true]at this) (fun b hb=>⟨j.imm hb,j.same hb⟩)) (fun hd z hz hzn hdz b hb=>by
    exact f.mem.apart_ne i hz (fun e=>hzn (e.symm.trans c)) (by rw[d,<-hdeep];exact hd) hdz hb)
  unfold Oper.wp
  rw[l,Oper.upon_skip,hd]
  exact r _ _ _ hK ⟨_,n⟩
theorem Qt9{T:TypeId}{x y:Operand}{p off:Nat}{e:TypeId}{cs xs:List AV}[ti:TI X.P T](ho:o.op=.store T x y)(hd:o.dst=none)(hx:σ.ev x=.ptr p off)(hp:Ql σ.ob p=some (.box e cs))(hy:(σ.ev y).cellsV=some xs)
  (hl:Nat.beq xs.length ti.size=true) (hfit:Nat.ble (off+ti.size) cs.length=true) (hK:K ⟨σ.nt,σ.sl,(p,.box e (splice cs off xs))::YT p σ.ob⟩):OpOk X o σ K:=
 Qqs (ao':=.box e (splice cs off xs)) hp hd rfl rfl rfl (fun a w en z h1 hz hzn hza hok=>by
  unfold EntOk at hok
  rw[hza]at hok
  obtain⟨u,g,b,j,h3,n,q⟩:=hok
  obtain⟨z',m,s,e2,g',h,t⟩:=QT h1 hx
  have:=h1.mem.ent_unique m hz (s.trans hzn.symm)
  subst this
  rw[j]at h
  simp only[blk,Xak]at h
  subst h
  obtain⟨r,h7⟩:=YH h1.mem hy (AS.ev_shows h1 y)
  have c:(a.eval y).cells.size=ti.size:=by rw[<-Xax,QD r];exact(Qg _ _).1 hl
  refine⟨g,(splice b.toList off (a.eval y).cells.toList).toArray,by rw[j];rfl,?_,fun hT _=>?_⟩
  ·have l:b.toList.length=cs.length:=QD q
   have h8:=YM (P:=X.P) (T:=T) (off:=off) (v:=a.eval y) n (by rw[ti.sized,c]) (by rw[c,<-Xax,l];exact XaL hfit) h7
   simp only[execOp,ho,t,Sem.run_bind,h8,Result.andThen]
   rfl
  ·unfold EntOk
   exact⟨u,g,_,j,h3,setRow_heap w g b _ e _ n,by
    have:=ZP (XU hT q) (XU hT r) off
    simpa using this⟩) hK

def Qdm(d:TypeDesc)(f:Nat):Option (Nat×TypeId):=
 match d with
 | .struct fs=>(fs[f]?).map fun x=>(x.offset,x.type)
 | _=>none
def AV.offset:AV->Nat->AV
 | .ptr o off,k=>.ptr o (off+k)
 | .pr o i off,k=>.pr o i (off+k)
 | .pd e off,k=>.pd e (off+k)
 | _,_=>.any
theorem Qjt{w:World}{en:List Ent}{I:Nat->Prop}{x:AV}{u:Value}{b off:Nat}(h:x.shows w en I u)(hu:u=.pointer (some ⟨b,off,none⟩))(k:Nat):(x.offset k).shows w en I (.pointer (some ⟨b,off+k,none⟩)):=by
 subst hu
 cases x with
 | ptr o off'=>
  obtain⟨y,a,d,f,g,j,c⟩:=h
  injection c with c;injection c with c;injection c with e1 e2
  subst e1;subst e2
  exact⟨y,a,d,f,_,j,rfl⟩
 | pr o i off'=>
  obtain⟨y,a,d,f,g,z,j,c,m,l⟩:=h
  injection l with l;injection l with l;injection l with e1 e2
  subst e1;subst e2
  exact⟨y,a,d,f,_,z,j,c,m,by rw[XbH]⟩
 | pd e off'=>
  obtain⟨b',o,n,F,a,d,f,j,c⟩:=h
  injection a with a;injection a with a;injection a with e1 e2
  subst e1;subst e2
  exact⟨_,o,n,F,by rw[XbH],d,f,j,c⟩
 | _=>trivial
def AV.isAddr:AV->Bool
 | .ptr _ _|.pr _ _ _|.pd _ _=>true
 | _=>false
theorem Qnp{w:World}{en:List Ent}{I:Nat->Prop}{x:AV}{u:Value}(hx:x.isAddr=true)(h:x.shows w en I u):∃b off,u=.pointer (some ⟨b,off,none⟩):=by
 cases x with
 | ptr o off'=>obtain⟨y,a,d,f,g,j,c⟩:=h;exact⟨_,_,c⟩
 | pr o i off'=>obtain⟨y,a,d,f,g,z,j,c,h6,k⟩:=h;exact⟨_,_,k⟩
 | pd e off'=>obtain⟨b',o,us,F,a,d,f,j,c⟩:=h;exact⟨_,_,a⟩
 | _=>cases hx
theorem Qgh{T:TypeId}{x:Operand}{f off:Nat}{ft:TypeId}{v:AV}[ti:TI X.P T](ho:o.op=.fieldAddr T x f)(hd:o.dst=some t)(hf:Qdm ti.desc f=some (off,ft))[tf:TI X.P ft](hz:Nat.beq tf.size 0=false)
  (hx:σ.ev x=v) (ha:v.isAddr=true) (ht:Nat.blt t σ.nt=true) (hK:K (σ.put t (v.offset off))):QOk X o σ K:=
 Jm hd ht (fun a w en h=>by
  have j:=QT h hx
  obtain⟨b,k,e⟩:=Qnp ha j
  refine⟨_,fun w' _=>?_,Qjt j e off⟩
  unfold Qdm at hf
  have l:=ti.und
  split at hf
  ·rename_i q c
   rw[c]at l
   obtain⟨i,r,_,s,_⟩:=tf.parts
   cases d:q[f]? with
   | none=>rw[d]at hf;cases hf
   | some fd=>
    rw[d]at hf
    simp only[XaW,Xak,Xci]at hf
    obtain⟨n,p⟩:=hf
    have g:¬i.size=0:=by
     rw[s];intro m
     rw[m]at hz
     cases hz
    simp[execOp,ho,e,Instr.fieldAt,run_underlying l,d,Instr.sureAddr,fieldPlace,sizeOf,typeInfo,p,r,g,n,Sem.run_pure,Yl]
  ·cases hf) hK
theorem Qya{T e:TypeId}{x y:Operand}{es:List (List D)}{el:List D}{i:Int}[ti:TI X.P T](hti:ti.desc=.slice e)[te:TI X.P e](ho:o.op=.indexAddr T x y)(hd:o.dst=some t)(hx:σ.ev x=.d (.sl es))(hy:σ.ev y=.d (.n .i64 i))
  (hi:0<=i/\i<es.length) (hel:es[i.toNat]?=some el) (hz:Nat.beq el.length te.size=true) (ht:Nat.blt t σ.nt=true) (hK:K (σ.put t (.pd el 0))):QOk X o σ K:=
 Jm hd ht (fun a w en h=>by
  obtain⟨F,h1,m⟩:=QT h hx
  obtain⟨G,⟨e2,_⟩,_⟩:=QT h hy
  obtain⟨A,s,z,us,F',u,h4,h5,h6,p,h8,f⟩:=h1
  have r:=ti.und
  rw[hti]at r
  rcases f with ⟨f,_⟩|⟨f,b,off,rfl,h10,rfl,h11⟩
  ·subst f;simp only[XaS]at hi;omega
  ·obtain⟨vs,G,g1,g2,g3⟩:=QgN h8 p hel
   obtain⟨q,g,_,k,_⟩:=te.parts
   have l:z=te.size:=((p el (List.mem_of_getElem? hel)).symm).trans ((Qg _ _).1 hz)
   refine⟨.pointer (some ⟨b,off+i.toNat*z,none⟩),fun w' _=>?_,b,off+i.toNat*z,vs,G,rfl,g1,fun j v hj=>?_,m b Xaa,fun c hc=>m c (Xad _ (g2 c hc))⟩
   ·simp[execOp,ho,u,e2,Instr.indexAt,asIntOf,run_underlying r,hi,sizeOf,typeInfo,g,k,l,Sem.run_pure,Yl]
   ·rw[XbH];exact h11 _ _ (g3 j v hj)) hK
theorem QvQ{T e:TypeId}{x y:Operand}{p:Nat}{er:TypeId}{es:List (List D)}{dp:Bool}{i:Int}[ti:TI X.P T](hti:ti.desc=.slice e)(he:er=e)(ho:o.op=.indexAddr T x y)(hd:o.dst=some t)(hx:σ.ev x=.row p)(hp:Ql σ.ob p=some (.row er es dp))(hy:σ.ev y=.d (.n .i64 i))
  (hi:0<=i/\i<es.length) (ht:Nat.blt t σ.nt=true) (hK:K (σ.put t (.pr p i.toNat 0))):QOk X o σ K:=
 Jm hd ht (fun a w en h=>by
  subst he
  obtain⟨z,v,j,f⟩:=h.ent hp
  obtain⟨z',aa,e1,e2,e3⟩:=QT h hx
  have:=h.mem.ent_unique aa v (e1.trans j.symm)
  subst this
  obtain⟨G,⟨ey,_⟩,_⟩:=QT h hy
  have b:=h.mem.ok z' v
  unfold EntOk at b
  rw[f]at b
  obtain⟨s,us,k,k2,k3,k4,k5,_⟩:=b
  obtain⟨A,c,g1,g2,g3,g4,g5⟩:=JK k3
  obtain⟨g,g6⟩:=g5 (by omega)
  have hu:=ti.und
  rw[hti]at hu
  have r:i.toNat<es.length:=by omega
  refine⟨.pointer (some ⟨g,i.toNat*s,none⟩),fun w' _=>?_,z',v,j,e2,g,s,by rw[g1,g6];rfl,?_,by rw[f];simpa [AO.lens] using r,by simp⟩
  ·cases u:X.P.info? er with
   | none=>rw[u]at k;cases k
   | some q=>
    have hs:q.size=s:=by rw[u]at k;simpa using k
    rw[g1,g6]at e3
    simp[execOp,ho,e3,ey,Instr.indexAt,asIntOf,run_underlying hu,hi,sizeOf,typeInfo,u,hs,Sem.run_pure,Yl]
  ·rw[f]
   intro l hl
   obtain⟨el,m,rfl⟩:=Xaf.1 hl
   exact k4 el m) hK
end

def one(rs:List AV):AV:=match rs with
 | [x]=>x
 | xs=>.tup xs
def ACalls(P:Program)(f:FuncId)(args rs:List AV)(rob:List (Nat×AO)):Prop:=
 ∀(w:World) (us:List Value),Qn w [] (fun b=>b<w.heap.size) args us->
  (∀w',(callFunc f us.toArray).run P w'=.ok (.enter f us.toArray) w')/\
  Calls P f us.toArray w fun e w'=>∃v en,e=.returned v/\Mem P w NoZ NoB en w'/\(en.map Ent.key).Perm rob/\(one rs).shows w' en (Imm w NoZ NoB en w') v

def Qfk:Nat->List AV->List (Nat×AV)
 | _,[]=>[]
 | i,x::xs=>(i,x)::Qfk (i+1) xs
theorem Qab:∀(xs:List AV) (i t:Nat),look (Qfk i xs) t=if i<=t then xs.getD (t-i) .any else .any
 | [],i,t=>by simp[Qfk,look]
 | x::xs,i,t=>by
  rw[Qfk,QQ,Qab xs (i+1) t]
  by_cases h1:i=t
  ·subst h1;simp
  ·rw[if_neg h1]
   by_cases h2:i+1<=t
   ·rw[if_pos h2,if_pos (by omega),show t-i=(t-(i+1))+1 by omega]
    simp
   ·rw[if_neg h2,if_neg (by omega)]
def QfT(nt:Nat)(args:List AV):AS:=⟨nt,Qfk 0 args,[]⟩

mutual
def AV.ren(ρ:List Nat):AV->AV
 | .row i=>.row (ρ.getD i 0)
 | .agg xs=>.agg (renL ρ xs)
 | .tup xs=>.tup (renL ρ xs)
 | x=>x
def renL(ρ:List Nat):List AV->List AV
 | []=>[]
 | x::xs=>x.ren ρ::renL ρ xs
end
mutual
def AV.na(n:Nat):AV->Bool
 | .d x=>x.flat
 | .nil=>true
 | .row i=>Nat.blt i n
 | .agg xs=>naL n xs
 | .tup xs=>naL n xs
 | _=>false
def naL(n:Nat):List AV->Bool
 | []=>true
 | x::xs=>x.na n&&naL n xs
end
theorem Qv5(ρ:List Nat)(rs:List AV):(one rs).ren ρ=one (renL ρ rs):=by
 match rs with
 | []=>rfl
 | [x]=>rfl
 | x::y::zs=>rfl
theorem QwX(n:Nat)(rs:List AV)(h:naL n rs=true):(one rs).na n=true:=by
 match rs,h with
 | [],_=>rfl
 | [x],h=>simpa [naL,one] using h
 | x::y::zs,h=>exact h
def QoQ(X:Cx)(σ:AS)(t:Nat)(T:TypeId)(v:AV):Prop:=∃ti:TI X.P T,((J5 ti.desc=true/\∃xs,(σ.at (look σ.sl t)).map (List.take ti.size)=some xs/\Nat.beq xs.length ti.size=true/\AV.agg xs=v)\/
   (J5 ti.desc=false/\(σ.at (look σ.sl t)).bind (·[0]?)=some v))
def QbY(X:Cx)(σ:AS):List ResultVar->List AV->Prop
 | [],[]=>True
 | .tmp t::rs,v::vs=>look σ.sl t=v/\QbY X σ rs vs
 | .cell t T::rs,v::vs=>QoQ X σ t T v/\QbY X σ rs vs
 | _,_=>False
theorem Qtf{X:Cx}{σ:AS}{t:Nat}{T:TypeId}{v:AV}{xs:List AV}[ti:TI X.P T](ha:J5 ti.desc=true)(hx:(σ.at (look σ.sl t)).map (List.take ti.size)=some xs)(hl:Nat.beq xs.length ti.size=true)(hv:AV.agg xs=v):QoQ X σ t T v:=
 ⟨ti,.inl ⟨ha,xs,hx,hl,hv⟩⟩
def Qqz(σ:AS):List Nat->Nat->List (Nat×AO)->Prop
 | [],_,[]=>True
 | p::ρ,i,(j,.row e es d)::rob=>(Nat.beq i j=true/\d=true)/\Ql σ.ob p=some (.row e es true)/\Qqz σ ρ (i+1) rob
 | _,_,_=>False
def YZ:List Nat->Bool
 | []=>true
 | x::xs=>!(xs.any fun y=>Nat.beq x y)&&YZ xs
theorem Wc:∀{l:List Nat},YZ l=true->l.Nodup
 | [],_=>by simp
 | x::xs,h=>by
  simp only[YZ,Xac,Xa6,XcE]at h
  rw[XaQ]
  exact⟨fun hm=>h.1 x hm ((Qg x x).2 rfl),Wc h.2⟩
def ZZ(tmps:Array Value):ResultVar->Sem Value
 | .tmp t=>pure (tmps.getD t undef)
 | .cell c t=>do loadVar t (<-asAddr (tmps.getD c undef))
theorem VQ{X:Cx}{σ:AS}{a:Act}{w:World}{en:List Ent}(h:J2 X σ a w en):∀(rs:List ResultVar) (vs:List AV),QbY X σ rs vs->
  ∃us,(rs.mapM (ZZ a.tmps)).run X.P w=.ok us w/\Qn w en (IM X en w) vs us
 | [],[],_=>⟨[],by simp[Sem.run_pure],rfl⟩
 | .tmp t::rs,v::vs',hr=>by
  obtain⟨h1,h2⟩:=hr
  obtain⟨us,h3,h4⟩:=VQ h rs vs' h2
  refine⟨a.tmps.getD t undef::us,?_,_,us,rfl,h1▸h.slots t,h4⟩
  simp only[List.mapM_cons,ZZ,Sem.run_bind,Sem.run_pure,Result.andThen,h3]
 | .cell t T::rs,v::vs',hr=>by
  obtain⟨⟨ti,h1⟩,h2⟩:=hr
  obtain⟨us,h3,h4⟩:=VQ h rs vs' h2
  have key:∃b off u,a.tmps.getD t undef=.pointer (some ⟨b,off,none⟩)/\(loadVar T ⟨b,off,none⟩).run X.P w=.ok u w/\v.shows w en (IM X en w) u:=by
   rcases h1 with ⟨ha,xs,hx,hl,hv⟩|⟨ha,hx⟩
   ·cases hy:σ.at (look σ.sl t) with
    | none=>rw[hy]at hx;cases hx
    | some ys=>
     rw[hy]at hx
     simp only[XaW,Xak]at hx
     obtain⟨b,off,us,e,k1,k2⟩:=Qdb h hy (h.slots t)
     have k3:=We k1 ti.size
     rw[hx]at k3
     have hlen:(us.take ti.size).length=ti.size:=(QD k3).trans ((Qg _ _).1 hl)
     refine⟨b,off,.agg (us.take ti.size).toArray,e,?_,hv▸⟨_,rfl,k3⟩⟩
     exact run_loadVar_mid (P:=X.P) w b off T (us.take ti.size) ti.desc (fun j v hj=>k2 j v (by
      rw[List.getElem?_take]at hj
      split at hj
      ·exact hj
      ·cases hj)) ti.und (by cases hde:ti.desc <;> simp_all[J5,TypeDesc.isRow]) (by rw[ti.sized,hlen])
   ·cases hy:σ.at (look σ.sl t) with
    | none=>rw[hy]at hx;cases hx
    | some ys=>
     rw[hy]at hx
     obtain⟨b,off,us,e,k1,k2⟩:=Qdb h hy (h.slots t)
     obtain⟨u,k3,k4⟩:=WF k1 hx
     refine⟨b,off,u,e,?_,k4⟩
     have k5:=k2 _ _ k3
     have hag:(isAgg T).run X.P w=.ok false w:=by
      unfold isAgg
      rw[Sem.run_bind,run_underlying ti.und w]
      cases hde:ti.desc <;> simp_all[J5,Sem.run_pure]
     simp only[loadVar,Sem.run_bind,Result.andThen_ok,hag,XaT,if_false,run_load]
     simp only[XbK]at k5
     rw[k5]
  obtain⟨b,off,u,e,k1,k2⟩:=key
  refine⟨u::us,?_,_,us,rfl,k2,h4⟩
  have e2:(asAddr (a.tmps.getD t undef)).run X.P w=.ok ⟨b,off,none⟩ w:=by rw[e];rfl
  simp only[List.mapM_cons,ZZ,Sem.run_bind,Sem.run_pure,Result.andThen,e2,k1,h3]
section
variable {w:World} {en en':List Ent} {I I':Nat->Prop} {n:Nat} {ρ:List Nat}
mutual
theorem AV.shows_ren(he:∀i,i<n->∀x∈en,x.nm=ρ.getD i 0->∃y∈en',y.nm=i/\y.val=x.val/\y.ao.isRow=x.ao.isRow) :
  ∀(x:AV) (u:Value),x.na n=true->(x.ren ρ).shows w en I u->x.shows w en' I' u
 | .d x,u,hn,h=>by
  obtain⟨F,h1,_⟩:=h
  exact⟨F,h1,by rw[D.flat_fs h1 hn];simp⟩
 | .nil,_,_,h=>h
 | .row i,u,hn,h=>by
  obtain⟨x,hx,h1,h2,h3⟩:=h
  obtain⟨y,hy,g1,g2,g3⟩:=he i (Jp hn) x hx h1
  exact⟨y,hy,g1,by rw[g3];exact h2,by rw[g2];exact h3⟩
 | .agg xs,u,hn,h=>by
  obtain⟨us,h1,h2⟩:=h
  exact⟨us,h1,Qb1 he xs us hn h2⟩
 | .tup xs,u,hn,h=>by
  obtain⟨us,h1,h2⟩:=h
  exact⟨us,h1,Qb1 he xs us hn h2⟩
theorem Qb1(he:∀i,i<n->∀x∈en,x.nm=ρ.getD i 0->∃y∈en',y.nm=i/\y.val=x.val/\y.ao.isRow=x.ao.isRow) :
  ∀(xs:List AV) (us:List Value),naL n xs=true->Qn w en I (renL ρ xs) us->Qn w en' I' xs us
 | [],_,_,h=>h
 | x::xs,us,hn,h=>by
  obtain⟨u,us',rfl,h1,h2⟩:=h
  simp only[naL,Xac]at hn
  exact⟨u,us',rfl,AV.shows_ren he x u hn.1 h1,Qb1 he xs us' hn.2 h2⟩
end
end
theorem Ql0{X:Cx}{σ:AS}{a:Act}{w:World}{en:List Ent}(h:J2 X σ a w en):∀(ρ:List Nat) (i:Nat) (rob:List (Nat×AO)),ρ.Nodup->Qqz σ ρ i rob->
  ∃er:List Ent,er.map Ent.key=rob/\(∀y∈er,∃x∈en,x.nm∈ρ/\y={ x with nm:=y.nm }/\x.ao.isRow=true/\x.ao.deep=true)/\
   (er.Pairwise fun y z=>∀b,y.hd b->¬z.hd b)/\(er.Pairwise fun y z=>∀b∈y.fs,b∉z.fs)/\
   (∀j,j<ρ.length->∀x∈en,x.nm=ρ.getD j 0->∃y∈er,y.nm=i+j/\y.val=x.val/\y.ao.isRow=x.ao.isRow)/\(∀y∈er,i<=y.nm)
   /\(er.map Ent.nm).Nodup
 | [],i,[],_,_=>⟨[],rfl,by simp,by simp,by simp,by simp,by simp,by simp⟩
 | p::ρ,i,(j',.row e es d)::rob',hn,hr=>by
  obtain⟨⟨hj,rfl⟩,h1,h2⟩:=hr
  obtain rfl:=(Qg _ _).1 hj
  rw[XaQ]at hn
  obtain⟨er,g1,g2,g3,g4,g5,g6,g7⟩:=Ql0 h ρ (i+1) rob' hn.2 h2
  obtain⟨x,hx,hxn,hxa⟩:=h.ent h1
  refine⟨{ x with nm:=i }::er,by simp[Ent.key,hxa,<-g1],?_,?_,?_,?_,?_,?_⟩
  ·intro y hy
   rcases Xai.1 hy with rfl|hy
   ·exact⟨x,hx,by simp[hxn],rfl,by rw[hxa];rfl,by rw[hxa];rfl⟩
   ·obtain⟨z,k1,k2,k3⟩:=g2 y hy
    exact⟨z,k1,Xad _ k2,k3⟩
  ·rw[Xau]
   refine⟨fun y hy b hb=>?_,g3⟩
   obtain⟨z,k1,k2,k3,_⟩:=g2 y hy
   rw[k3]
   exact h.mem.hd_ne hx k1 (fun e0=>hn.1 (by rw[<-hxn,e0];exact k2)) hb
  ·rw[Xau]
   refine⟨fun y hy b hb=>?_,g4⟩
   obtain⟨z,k1,k2,k3,_,k5⟩:=g2 y hy
   rw[k3]
   exact h.mem.apart_ne hx k1 (fun e0=>hn.1 (by rw[<-hxn,e0];exact k2)) (by rw[hxa];rfl) k5 hb
  ·intro j hj y hy hyn
   cases j with
   | zero=>
    simp only[XbN]at hyn
    have:=h.mem.ent_unique hx hy (hxn.trans hyn.symm)
    subst this
    exact⟨_,Xaa,rfl,rfl,rfl⟩
   | succ j=>
    simp only[Xch]at hyn
    obtain⟨z,k1,k2,k3⟩:=g5 j (by simpa using hj) y hy hyn
    exact⟨z,Xad _ k1,by omega,k3⟩
  ·intro y hy
   rcases Xai.1 hy with rfl|hy
   ·exact Xaj _
   ·have:=g6 y hy;omega
  ·simp only[Xas,XaQ]
   refine⟨fun hm=>?_,g7⟩
   obtain⟨y,hy,e0⟩:=Xaf.1 hm
   have:=g6 y hy
   omega
def Qx5(X:Cx)(fn:Func)(rs:List AV)(rob:List (Nat×AO))(ρ:List Nat)(σ:AS):Prop:=
 YZ ρ=true/\naL ρ.length rs=true/\QbY X σ fn.results.toList (renL ρ rs)/\Qqz σ ρ 0 rob
def retQ(X:Cx)(fn:Func)(rs:List AV)(rob:List (Nat×AO)):Exit->AS->Prop
 | .normal,σ|.ret,σ=>∃ρ,Qx5 X fn rs rob ρ σ
 | _,_=>False
theorem QuL{P:Program}{w0:World}{f:Nat->Bool}{Z:ZV f}{tt:(T:TypeId)->Option (TI P T)}{fn:Func}{rs:List AV}{rob:List (Nat×AO)}{ρ:List Nat}{σ:AS}{a:Act}{w:World}(hr:Qx5 ⟨P,w0,f,Z,NoB,tt⟩ fn rs rob ρ σ)(h:Rel ⟨P,w0,f,Z,NoB,tt⟩ σ a w) :
  a.defers=[]/\∃v,(results fn a.tmps).run P w=.ok v w/\∃v' en,Ending.returned v=.returned v'/\Mem P w0 NoZ NoB en w/\(en.map Ent.key).Perm rob/\(one rs).shows w en (Imm w0 NoZ NoB en w) v':=by
 obtain⟨en,r⟩:=h
 obtain⟨r1,r2,r3,r4⟩:=hr
 obtain⟨d,h2,c⟩:=VQ r _ _ r3
 obtain⟨er,g1,g2,g3,g4,g5,g6,g7⟩:=Ql0 r ρ 0 rob (Wc r1) r4
 have m:=r.mem
 refine⟨r.defers,(if h:d.length=1 then d[0]else .tuple d.toArray),?_,_,er,rfl,⟨m.os,m.tape,m.output,m.size,fun b hb hO=>m.old b hb hO,g7,g3,?_,?_,fun _ _=>trivial⟩,by rw[g1],?_⟩
 ·have e:results fn a.tmps=(do let k <-fn.results.mapM (ZZ a.tmps);pure (if h:k.size=1 then k[0]else .tuple k)):=rfl
  have e2:fn.results.mapM (ZZ a.tmps)=(do let l <-fn.results.toList.mapM (ZZ a.tmps);pure l.toArray):=by
   rw[bind_pure_comp,<-XcF]
  rw[e,e2]
  simp only[Sem.run_bind,h2,Result.andThen,Sem.run_pure]
  simp
 ·intro y hy
  obtain⟨x,t,_,e,g,o⟩:=g2 y hy
  have j:=m.ok x t
  unfold EntOk at j
  split at j
  ·rename_i e1 es dp n
   obtain⟨z,k,k0,s,q,k3,k4,k5,k6,k7⟩:=j
   rw[n]at o
   have p:dp=true:=o
   rw[e]
   unfold EntOk
   simp only[n]
   refine⟨z,k,k0,s,q,k3,k4,fun hd=>?_,k6,k7⟩
   rw[p]at hd
   cases hd
  ·rename_i hb
   rw[hb]at g;cases g
 ·exact g4.imp fun h _ _=>h
 ·have key:(one (renL ρ rs)).shows w en (Imm w0 Z NoB en w) (if h:d.length=1 then d[0]else .tuple d.toArray):=by
   generalize renL ρ rs=k at c
   match k,c with
   | [],c=>
    have:d=[]:=c
    subst this
    exact⟨[],rfl,rfl⟩
   | [x],c=>
    obtain⟨u,ab,rfl,s,q⟩:=c
    have:ab=[]:=q
    subst this
    exact s
   | x::y::zs,c=>
    have:d.length≠1:=by rw[QD c];simp
    rw[dif_neg this]
    exact⟨d,rfl,c⟩
  rw[<-Qv5]at key
  exact AV.shows_ren (fun i hi x t hn=>by
   obtain⟨y,hy,s,q⟩:=g5 i hi x t hn
   exact⟨y,hy,by omega,q⟩) _ _ (QwX _ _ r2) key
theorem QeZ {P : Program} (tt : (T : TypeId) → Option (TI P T)) {f : FuncId} {fn : Func} {c : Code} {args rs : List AV} {rob : List (Nat × AO)} (hf : P.funcs[f]? = some fn) (hname : (fn.name == "runtime.NumGoroutine") = false) (hb : fn.body = some c) (hn : Nat.ble args.length fn.ntmps = true)
  (h:∀(w0:World) (Z:ZV fre0),AWp ⟨P,w0,fre0,Z,NoB,tt⟩ c (retQ ⟨P,w0,fre0,Z,NoB,tt⟩ fn rs rob) (QfT fn.ntmps args)):ACalls P f args rs rob:=by
 intro w d m
 refine⟨fun w'=>Go.MuLone.run_callFunc_enter hf hname hb _ w',?_⟩
 refine calls_of_wp hf hb ?_
 have g:=QD m
 have p:d.length<=fn.ntmps:=by rw[g];exact XaL hn
 have q:Mem P w (zv (f:=fre0) fun b=>b<w.heap.size) NoB [] w:=⟨rfl,rfl,rfl,Xaj _,fun _ _ _=>rfl,by simp,by simp,by simp,by simp,by simp⟩
 have o:∀b,b<w.heap.size->Imm w (zv (f:=fre0) fun b=>b<w.heap.size) NoB [] w b:=fun b hb=>⟨.inl hb,hb,by simp⟩
 have i:Rel ⟨P,w,fre0,zv fun b=>b<w.heap.size,NoB,tt⟩ (QfT fn.ntmps args) { tmps:=d.toArray++Array.replicate (fn.ntmps-d.toArray.size) undef,defers:=[] } w:=by
  refine⟨[],q,by simp[QfT],rfl,by simp[QfT];omega,fun t=>?_⟩
  simp only[QfT,Qab,Xae,if_true,XbE]
  rw[Array.getD_eq_getD_getElem?]
  cases k:args[t]? with
  | none=>simp only[List.getD,k,Xce];trivial
  | some x=>
   obtain⟨u,l,n⟩:=WF m k
   simp only[List.getD,k,XaJ]
   have j:t<d.length:=(List.getElem?_eq_some_iff.1 l).1
   have:(d.toArray++Array.replicate (fn.ntmps-d.toArray.size) undef)[t]?=some u:=by
    rw[Array.getElem?_append_left (by simpa using j)]
    simpa using l
   rw[this]
   exact AV.shows_mono (Xaj _) (fun _ _=>rfl) o (fun x hx=>by cases hx) n
 refine wp_mono (h w (zv fun b=>b<w.heap.size) _ w i) (fun e a' w' ⟨σ,a,hr⟩=>?_)
 cases e with
 | normal=>obtain⟨ρ,a⟩:=a;exact QuL a hr
 | ret=>obtain⟨ρ,a⟩:=a;exact QuL a hr
 | _=>exact a.elim
theorem Qpb{X:Cx}{fn:Func}{rs:List AV}{rob:List (Nat×AO)}{σ:AS}(ρ:List Nat)(h1:YZ ρ=true)(h2:naL ρ.length rs=true)(h3:QbY X σ fn.results.toList (renL ρ rs))(h4:Qqz σ ρ 0 rob):retQ X fn rs rob .ret σ:=⟨ρ,h1,h2,h3,h4⟩
end
end Go.Proofs.YtkdniahincpmaaaGreat
