/-
  Rooms: RoomOk of a right room, different nodes; both.
-/
import Derived.Test.YtelbahebpmkfjaaGreatKB7
import Derived.Test.YtelbahebpmkfjaaGreatKB11
import Derived.Test.YtelbahebpmkfjaaGreatKB17
set_option maxRecDepth 100000
set_option maxHeartbeats 16000000
namespace Go.Proofs.YtelbahebpmkfjaaGreat
open Go Go.RowKit
attribute [local irreducible] AWp Qat OpOk ACalls ChA QsOk MCalls EnC PY

theorem RoomOk.small {r:Room} (h:RoomOk r):(r.topo.parents.length≤24∧r.topo.nodes.length≤24)∧r.up.length≤24∧r.profs.length≤24∧r.lics.length≤200:=by
 have h1:=h.topo.len
 have h2:=h.topo.nlen
 have h3:=h.up
 have h4:=h.num
 have h5:=h.lics.len
 omega
theorem Qhx {r:Room} (h:RoomOk r):ACalls Tryz.prog 248 [QcC r] [.d (.b true)] []:=by
 refine Qaa tt Tryz.func248 rfl rfl rfl (fun w0 Z=>?_)
 have hs:=h.small
 have h1:=h.up
 have h2:=h.num
 have c1:=Qhu (t:=r.topo) (by omega) (by omega)
 rw [Qbz.2 h.topo] at c1
 have c2:=Qkp (l:=r.lics) (by omega)
 rw [Qbt.2 h.lics] at c2
 repeat' (first|refine zst ?_|(refine zhm fun hb=>?_;try exact zab)|refine zg2 ?_ ?_|refine zln fun _=>?_|refine zop ?_|refine kc (c1) rfl rfl ?_|refine kc (c2) rfl rfl ?_|fail)
 refine Qae (fun (i:Nat)=>⟨43,[(1,.ptr 1 0),(30,.d (.sl (QaU r.profs))),(31,.d (.n .i64 (r.profs.length:Nat))),(32,.d (.n .i64 i))],[(1,.box 212 (QgP r))]⟩) (fun i=>i≤r.profs.length) (fun i=>r.profs.length - i) 0 (by exact Nat.zero_le _) ?_ ?_
 ·refine ⟨rfl,?_,?_,rfl⟩
  repeat'(first|apply And.intro|exact ze0|refine ze1 ?_|refine zei ?_ ?_|exact rfl|trivial)
  all_goals exact Stop.mk (by first|rfl|exact Qan _)
 ·intro i hi
  have hl:=Qan r.profs
  by_cases hi':i<r.profs.length
  ·have hp:=h.profs i hi'
   have c3:=Qkp (l:=nth r.profs i) (by have:=hp.len;omega)
   rw [Qbt.2 hp] at c3
   repeat' (first|refine zst ?_|(refine zhm fun hb=>?_;try exact zab)|refine zg2 ?_ ?_|refine zln fun _=>?_|refine zop ?_|refine kc (c3) rfl rfl ?_|fail)
   refine ⟨i+1,by omega,by omega,?_⟩
   exact ⟨rfl,zae,zae,rfl⟩
  ·repeat' (first|refine zst ?_|(refine zhm fun hb=>?_;try exact zab)|refine zg2 ?_ ?_|refine zln fun _=>?_|refine zop ?_|refine kc (c2) rfl rfl ?_|fail)
   exact zr [] zae zae
theorem Qht {r:Room} (h:RoomOk r):ACalls Tryz.prog 242 [QcC r] [.d (.b true)] []:=by
 refine Qaa tt Tryz.func242 rfl rfl rfl (fun w0 Z=>?_)
 have hs:=h.small
 have h1:=h.up
 have h2:=h.num
 have c1:=Qe1 (t:=r.topo) (by omega) (by omega)
 rw [Qbz.2 h.topo] at c1
 have c2:=Qgo (l:=r.lics) (by omega)
 rw [Qbt.2 h.lics] at c2
 repeat' (first|refine zst ?_|(refine zhm fun hb=>?_;try exact zab)|refine zg2 ?_ ?_|refine zln fun _=>?_|refine zop ?_|refine kc (c1) rfl rfl ?_|refine kc (c2) rfl rfl ?_|fail)
 refine Qae (fun (i:Nat)=>⟨46,[(36,.d (.sl (QaU r.profs))),(37,.d (.n .i64 (r.profs.length:Nat))),(38,.d (.n .i64 i))],[]⟩) (fun i=>i≤r.profs.length) (fun i=>r.profs.length - i) 0 (by exact Nat.zero_le _) ?_ ?_
 ·refine ⟨rfl,?_,?_,rfl⟩
  repeat'(first|apply And.intro|exact ze0|refine ze1 ?_|refine zei ?_ ?_|exact rfl|trivial)
  all_goals exact Stop.mk (by first|rfl|exact Qan _)
 ·intro i hi
  have hl:=Qan r.profs
  by_cases hi':i<r.profs.length
  ·have hp:=h.profs i hi'
   have c3:=Qgo (l:=nth r.profs i) (by have:=hp.len;omega)
   rw [Qbt.2 hp] at c3
   repeat' (first|refine zst ?_|(refine zhm fun hb=>?_;try exact zab)|refine zg2 ?_ ?_|refine zln fun _=>?_|refine zop ?_|refine kc (c3) rfl rfl ?_|fail)
   refine ⟨i+1,by omega,by omega,?_⟩
   exact ⟨rfl,zae,zae,rfl⟩
  ·repeat' (first|refine zst ?_|(refine zhm fun hb=>?_;try exact zab)|refine zg2 ?_ ?_|refine zln fun _=>?_|refine zop ?_|refine kc (c2) rfl rfl ?_|fail)
   exact zr [] zae zae
theorem Qqa {t:Topo} {j:Job} {l:List Int} {i:Nat} (hi:i<l.length) (h:hasI (l.take i) (nth l i)=true):QeS t j l=false:=pB_f.2 fun hd=>by rw [hd.diff i hi] at h;cases h
theorem Qrv {t:Topo} {j:Job} {l:List Int} (h:(l.length:Int)≠j.nodes):QeS t j l=false:=pB_f.2 fun hd=>h hd.num
theorem Qra {t:Topo} {j:Job} {l:List Int} (ht:TopoOk t) (h:Qet t l=false):QeS t j l=false:=pB_f.2 fun hd=>by rw [Qd0.2 ⟨hd.nodes,ht⟩] at h;cases h
theorem QuW {t:Topo} {j:Job} {l:List Int} (h1:∀i,i<l.length→hasI (l.take i) (nth l i)=false) (h2:(l.length:Int)=j.nodes) (h3:Qet t l=true):QeS t j l=true:=pB_t.2 ⟨(Qd0.1 h3).1,h1,h2⟩
theorem Qp2 (l:List Int) (i:Nat):(List.drop 0 ((intE l).take i))=intE (l.take i):=by simp [intE,List.map_take]
theorem QfM {t:Topo} {j:Job} {l:List Int} (ht:TopoOk t) (hl:l.length≤1000000000):ACalls Tryz.prog 299 [Qcw t,jobA j,.d (.sl (intE l))] [.d (.b (QeS t j l))] []:=by
 refine Qaa tt Tryz.func299 rfl rfl rfl (fun w0 Z=>?_)
 have hps:=ht.len
 have hns:=ht.nlen
 repeat' (first|refine zst ?_|(refine zhm fun hb=>?_;try exact zab)|refine zg2 ?_ ?_|refine zln fun _=>?_|refine zop ?_|fail)
 refine Qae (fun (i:Nat)=>⟨32,[(2,.d (.sl (intE l))),(3,.ptr 3 0),(4,.ptr 4 0),(9,.d (.sl (intE l))),(10,.d (.n .i64 (l.length:Nat))),(11,.d (.n .i64 i))],[(3,.box 37 (QcU t)),(4,.box 78 ((jobD j).map AV.d))]⟩) (fun i=>i≤l.length∧∀k,k<i→hasI (l.take k) (nth l k)=false) (fun i=>l.length - i) 0 (by exact ⟨Nat.zero_le _,fun k hk=>absurd hk (Nat.not_lt_zero _)⟩) ?_ ?_
 ·refine ⟨rfl,?_,?_,rfl⟩
  repeat'(first|apply And.intro|exact ze0|refine ze1 ?_|refine zei ?_ ?_|exact rfl|trivial)
  all_goals exact Stop.mk (by first|rfl|exact Qad _)
 ·rintro i ⟨hi,hd⟩
  have hil:(intE l).length=l.length:=Qad l
  by_cases hi':i<l.length
  ·have hc:=Qdk (l:=l.take i) (x:=nth l i) (by rw [List.length_take];omega)
   rw [←Qp2] at hc
   repeat' (first|refine zst ?_|(refine zhm fun hb=>?_;try exact zab)|refine zg2 ?_ ?_|refine zln fun _=>?_|refine zop ?_|refine kc (hc) rfl rfl ?_|fail)
   ·rw [Qqa hi' (by assumption)]
    exact zr [] zae zae
   ·refine ⟨i+1,⟨by omega,fun k hk=>?_⟩,by omega,?_⟩
    ·by_cases e:k=i
     ·subst e;assumption
     ·exact hd k (by omega)
    exact ⟨rfl,zae,zae,rfl⟩
  ·have hn:=Qje (t:=t) (l:=l) (by omega) (by omega) hl
   cases hnb:Qet t l with
   | false=>
    rw [hnb] at hn
    rw [Qra ht hnb]
    repeat' (first|refine zst ?_|(refine zhm fun hb=>?_;try exact zab)|refine zg2 ?_ ?_|refine zln fun _=>?_|refine zop ?_|refine kc (hn) rfl rfl ?_|fail)
    exact zr [] zae zae
   | true=>
    rw [hnb] at hn
    repeat' (first|refine zst ?_|(refine zhm fun hb=>?_;try exact zab)|refine zg2 ?_ ?_|refine zln fun _=>?_|refine zop ?_|refine kc (hn) rfl rfl ?_|fail)
    refine zr [] ?_ ?_
    repeat'(first|apply And.intro|exact ze0|refine ze1 ?_|refine zei ?_ ?_|exact rfl|trivial)
    all_goals
     refine Stop.mk ?_
     by_cases e:(l.length:Int)=j.nodes
     ·rw [QuW (fun k hk=>hd k (by omega)) e hnb];simp [e]
     ·rw [Qrv e];simp [e]
theorem QiX {r:Room} {j:Job} {l:List Int} (hr:RoomOk r) (hl:l.length≤1000000000):ACalls Tryz.prog 240 [QcC r,jobA j,.d (.sl (intE l))] [.d (.b (Qau j&&QeS r.topo j l))] []:=by
 refine Qaa tt Tryz.func240 rfl rfl rfl (fun w0 Z=>?_)
 have hps:=hr.topo.len
 have hns:=hr.topo.nlen
 have c1:=Qht hr
 have c2:=QiD (j:=j)
 have c3:=Qg4 (t:=r.topo) (l:=l) (by omega) (by omega) hl
 cases h2:Qau j with
 | false=>
  rw [h2] at c2
  repeat' (first|refine zst ?_|(refine zhm fun hb=>?_;try exact zab)|refine zg2 ?_ ?_|refine zln fun _=>?_|refine zop ?_|refine kc (c1) rfl rfl ?_|refine kc (c2) rfl rfl ?_|fail)
  exact zr [] zae zae
 | true=>
  rw [h2] at c2
  by_cases e:(l.length:Int)=j.nodes
  ·cases h3:Qet r.topo l with
   | false=>
    rw [h3] at c3
    rw [Qra hr.topo h3]
    repeat' (first|refine zst ?_|(refine zhm fun hb=>?_;try exact zab)|refine zg2 ?_ ?_|refine zln fun _=>?_|refine zop ?_|refine kc (c1) rfl rfl ?_|refine kc (c2) rfl rfl ?_|refine kc (c3) rfl rfl ?_|fail)
    any_goals
     refine zr [] ?_ ?_
     repeat'(first|apply And.intro|exact ze0|refine ze1 ?_|refine zei ?_ ?_|exact rfl|trivial)
     all_goals exact Stop.mk rfl
   | true=>
    rw [h3] at c3
    repeat' (first|refine zst ?_|(refine zhm fun hb=>?_;try exact zab)|refine zg2 ?_ ?_|refine zln fun _=>?_|refine zop ?_|refine kc (c1) rfl rfl ?_|refine kc (c2) rfl rfl ?_|refine kc (c3) rfl rfl ?_|fail)
    refine Qae (fun (i:Nat)=>⟨44,[(2,.d (.sl (intE l))),(31,.d (.sl (intE l))),(32,.d (.n .i64 (l.length:Nat))),(33,.d (.n .i64 i))],[]⟩) (fun i=>i≤l.length∧∀k,k<i→hasI (l.take k) (nth l k)=false) (fun i=>l.length - i) 0 (by exact ⟨Nat.zero_le _,fun k hk=>absurd hk (Nat.not_lt_zero _)⟩) ?_ ?_
    ·refine ⟨rfl,?_,?_,rfl⟩
     repeat'(first|apply And.intro|exact ze0|refine ze1 ?_|refine zei ?_ ?_|exact rfl|trivial)
     all_goals exact Stop.mk (by first|rfl|exact Qad _)
    ·rintro i ⟨hi,hd⟩
     have hil:(intE l).length=l.length:=Qad l
     by_cases hi':i<l.length
     ·have hc:=Qc4 (l:=l.take i) (x:=nth l i) (by rw [List.length_take];omega)
      rw [←Qp2] at hc
      repeat' (first|refine zst ?_|(refine zhm fun hb=>?_;try exact zab)|refine zg2 ?_ ?_|refine zln fun _=>?_|refine zop ?_|refine kc (hc) rfl rfl ?_|fail)
      ·rw [Qqa hi' (by assumption)]
       exact zr [] zae zae
      ·refine ⟨i+1,⟨by omega,fun k hk=>?_⟩,by omega,?_⟩
       ·by_cases e:k=i
        ·subst e;assumption
        ·exact hd k (by omega)
       exact ⟨rfl,zae,zae,rfl⟩
     ·rw [QuW (fun k hk=>hd k (by omega)) e h3]
      repeat' (first|refine zst ?_|(refine zhm fun hb=>?_;try exact zab)|refine zg2 ?_ ?_|refine zln fun _=>?_|refine zop ?_|fail)
      exact zr [] zae zae
  ·rw [Qrv e]
   repeat' (first|refine zst ?_|(refine zhm fun hb=>?_;try exact zab)|refine zg2 ?_ ?_|refine zln fun _=>?_|refine zop ?_|refine kc (c1) rfl rfl ?_|refine kc (c2) rfl rfl ?_|refine kc (c3) rfl rfl ?_|fail)
   any_goals
    refine zr [] ?_ ?_
    repeat'(first|apply And.intro|exact ze0|refine ze1 ?_|refine zei ?_ ?_|exact rfl|trivial)
    all_goals exact Stop.mk rfl
end Go.Proofs.YtelbahebpmkfjaaGreat
namespace Go.Proofs.YtelbahebpmkfjaaGreat
open Go Go.RowKit
attribute [local irreducible] AWp Qat OpOk ACalls ChA QsOk MCalls EnC PY

theorem Qpf {l:List Int} (h:l.length≤1000000000):DC Tryz.prog 169 [.d (.sl (intE l))] [.d (.sl (intE l))]:=by
 refine Qag tt Tryz.func169 rfl rfl rfl trivial (fun _ _=>⟨trivial,trivial⟩) (fun w0 Z O=>?_)
 have hl:=Qad l
 repeat' (first|refine zsr ?_|(refine zhm fun hb=>?_;try exact zab)|refine zg2 ?_ ?_|refine zop ?_|fail)
 show AWp _ _ _ _
 refine Qav 4 rfl ?_
 refine Qac ?_
 apply Qab
 exact zm () [] trivial zae zae zae
theorem Qg1 {l:List Pt} (h:l.length≤1000000000):DC Tryz.prog 324 [Qfn l] [Qfn l]:=by
 refine Qag tt Tryz.func324 rfl rfl rfl trivial (fun _ _=>⟨trivial,trivial⟩) (fun w0 Z O=>?_)
 have hl:=QaR l
 repeat' (first|refine zsr ?_|(refine zhm fun hb=>?_;try exact zab)|refine zg2 ?_ ?_|refine zop ?_|fail)
 show AWp _ _ _ _
 refine Qav 5 rfl ?_
 refine Qac ?_
 apply Qab
 exact zm () [] trivial zae zae zae
theorem Qc9 {l:List Pt} (h:l.length≤1000000000):DC Tryz.prog 317 [Qfn l] [Qfn l]:=by
 refine Qag tt Tryz.func317 rfl rfl rfl trivial (fun _ _=>⟨trivial,trivial⟩) (fun w0 Z O=>?_)
 have hl:=QaR l
 repeat' (first|refine zsr ?_|(refine zhm fun hb=>?_;try exact zab)|refine zg2 ?_ ?_|refine zop ?_|fail)
 show AWp _ _ _ _
 refine Qav 3 rfl ?_
 refine Qac ?_
 apply Qab
 exact zm () [] trivial zae zae zae
theorem Qe6 {t:Topo} (h1:t.parents.length≤1000000000) (h2:t.nodes.length≤1000000000):DC Tryz.prog 168 [Qcw t] [Qcw t]:=by
 refine Qag tt Tryz.func168 rfl rfl rfl trivial (fun _ _=>⟨trivial,trivial⟩) (fun w0 Z O=>?_)
 have hl:=Qar t.nodes
 repeat' (first|refine zsr ?_|(refine zhm fun hb=>?_;try exact zab)|refine zdr ?_|(apply zch;exact zcg)|refine HopS.mk fun w0 Z O=>?_|exact zhk|refine zg3 ?_ ?_|refine zop ?_|(refine km [] (Qpf (l:=t.parents) h1) rfl rfl (fun i hi=>?_);(try dsimp only at hi))|fail)
 show AWp _ _ _ _
 refine Qav 8 rfl ?_
 refine Qac ?_
 apply Qab
 exact zm () [] trivial zae zae zae
def slN (n:Nat) (es:List (List D)):AV:=match es with
 | []=>.nil
 | _::_=>.row n
def slO (n:Nat) (e:TypeId) (es:List (List D)):List (Nat×AO):=match es with
 | []=>[]
 | _::_=>[(n,.row e es false)]
theorem Qcu (l:List (List Pt)) (p:List Pt):QaU l++[[.sl (ptE p)]]=QaU (l++[p]):=by simp [QaU]
theorem Qju {r:Room} (h:RoomOk r) (h0:0<r.profs.length):MCalls Tryz.prog 300 [QcC r] [] (fun _:Unit=>True) (fun _=>[.agg [.d (.sl (intE r.topo.parents)),.d (.sl (QaD r.topo.nodes)),.d (.sl (Qaw r.up)),.row 0,.d (.sl (ptE r.lics))]]) (fun _=>[]) (fun _=>[(0,.row 210 (QaU r.profs) false)]):=by
 refine Qag tt Tryz.func300 rfl rfl rfl trivial (fun _ _=>⟨trivial,trivial⟩) (fun w0 Z O=>?_)
 have hs:=h.small
 have hbl:=Qaq r.up
 have hnl:=Qar r.topo.nodes
 have hpl:=Qan r.profs
 have hil:=Qad r.topo.parents
 repeat' (first|(refine Qaj 2 11 rfl ?_)|refine zst ?_|(refine zhm fun hb=>?_;try exact zab)|refine zdr ?_|(apply zch;exact zcg)|refine HopS.mk fun w0 Z O=>?_|exact zhk|refine zg3 ?_ ?_|refine zln fun _=>?_|refine zop ?_|(refine km [] (Qe6 (t:=r.topo) (by omega) (by omega)) rfl rfl (fun i hi=>?_);(try dsimp only at hi))|(refine km [] (Qg1 (l:=r.lics) (by omega)) rfl rfl (fun i hi=>?_);(try dsimp only at hi))|fail)
 refine Qae (fun (k:Nat×List (List Pt))=>⟨32,[(2,.ptr 2 0),(3,.ptr 3 0),(17,.d (.sl (QaU r.profs))),(18,.d (.n .i64 (r.profs.length:Nat))),(19,.d (.n .i64 k.1))],[(2,.box 212 [.nil,.nil,.nil,.nil,.nil]),(3,.box 212 [.d (.sl (intE r.topo.parents)),.d (.sl (QaD r.topo.nodes)),.d (.sl (Qaw r.up)),slN 28 (QaU k.2),.d (.sl (ptE r.lics))])]++slO 28 210 (QaU k.2)⟩) (fun k=>k.1≤r.profs.length∧k.2=r.profs.take k.1) (fun k=>r.profs.length - k.1) (0,[]) (by exact ⟨Nat.zero_le _,rfl⟩) ?_ ?_
 ·refine ⟨rfl,?_,?_,rfl⟩
  repeat'(first|apply And.intro|exact ze0|refine ze1 ?_|refine zei ?_ ?_|exact rfl|trivial)
  all_goals exact Stop.mk (by first|rfl|exact Qan _)
 ·rintro ⟨n,out⟩ ⟨hn,ho⟩
  dsimp only at hn ho ⊢
  have hol:out.length=n:=by rw [ho,List.length_take];omega
  have hol2:=Qan out
  by_cases hn':n<r.profs.length
  ·have hp:=h.profs n hn'
   have hpl2:=hp.len
   have hnx:=Qas hn'
   rw [←ho] at hnx
   cases out with
   | nil=>
    repeat' (first|refine zst ?_|(refine zhm fun hb=>?_;try exact zab)|refine zdr ?_|(apply zch;exact zcg)|refine HopS.mk fun w0 Z O=>?_|exact zhk|refine zg3 ?_ ?_|refine zln fun _=>?_|refine zop ?_|(refine km [] (Qg1 (l:=nth r.profs n) (by omega)) rfl rfl (fun i hi=>?_);(try dsimp only at hi))|fail)
    refine ⟨(n+1,[]++[nth r.profs n]),⟨by omega,hnx.symm⟩,by omega,?_⟩
    exact ⟨rfl,zae,zae,rfl⟩
   | cons p0 o0=>
    repeat' (first|refine zst ?_|(refine zhm fun hb=>?_;try exact zab)|refine zdr ?_|(apply zch;exact zcg)|refine HopS.mk fun w0 Z O=>?_|exact zhk|refine zg3 ?_ ?_|refine zln fun _=>?_|refine zop ?_|(refine km [] (Qg1 (l:=nth r.profs n) (by omega)) rfl rfl (fun i hi=>?_);(try dsimp only at hi))|fail)
    refine ⟨(n+1,(p0::o0)++[nth r.profs n]),⟨by omega,hnx.symm⟩,by omega,?_⟩
    refine ⟨rfl,?_,?_,rfl⟩
    repeat'(first|apply And.intro|exact ze0|refine ze1 ?_|refine zei ?_ ?_|exact rfl|trivial)
    all_goals exact Stop.mk (by first|rfl|exact Qcu (p0::o0) _)
  ·have hall:out=r.profs:=by rw [ho,List.take_of_length_le (by omega)]
   cases out with
   | nil=>rw [←hall] at h0;cases h0
   | cons p0 o0=>
    repeat' (first|refine zsr ?_|(refine zhm fun hb=>?_;try exact zab)|refine zdr ?_|(apply zch;exact zcg)|refine HopS.mk fun w0 Z O=>?_|exact zhk|refine zg3 ?_ ?_|refine zln fun _=>?_|refine zop ?_|fail)
    show AWp _ _ _ _
    refine Qac ?_
    apply Qab
    refine zm () [28] trivial ?_ ?_ ?_
    repeat'(first|apply And.intro|exact ze0|refine ze1 ?_|refine zei ?_ ?_|exact rfl|trivial)
    all_goals exact Stop.mk (by first|rfl|rw [hall])
theorem Qh8 {r:Room} (h:RoomOk r) (h0:0<r.profs.length):MCalls Tryz.prog 292 [QcC r] [] (fun _:Unit=>True) (fun _=>[.agg [.d (.sl (intE r.topo.parents)),.d (.sl (QaD r.topo.nodes)),.d (.sl (Qaw r.up)),.row 0,.d (.sl (ptE r.lics))]]) (fun _=>[]) (fun _=>[(0,.row 210 (QaU r.profs) false)]):=by
 refine Qag tt Tryz.func292 rfl rfl rfl trivial (fun _ _=>⟨trivial,trivial⟩) (fun w0 Z O=>?_)
 have hs:=h.small
 have hbl:=Qaq r.up
 have hnl:=Qar r.topo.nodes
 have hpl:=Qan r.profs
 have hil:=Qad r.topo.parents
 repeat' (first|(refine Qaj 3 6 rfl ?_)|(refine Qaj 3 14 rfl ?_)|(refine Qaj 3 19 rfl ?_)|refine zst ?_|(refine zhm fun hb=>?_;try exact zab)|refine zdr ?_|(apply zch;exact zcg)|refine HopS.mk fun w0 Z O=>?_|exact zhk|refine zg3 ?_ ?_|refine zln fun _=>?_|refine zop ?_|(refine km [] (Qc9 (l:=r.lics) (by omega)) rfl rfl (fun i hi=>?_);(try dsimp only at hi))|fail)
 refine Qae (fun (k:Nat×List (List Pt))=>⟨42,[(2,.ptr 2 0),(3,.ptr 3 0),(27,.d (.sl (QaU r.profs))),(28,.d (.n .i64 (r.profs.length:Nat))),(29,.d (.n .i64 k.1))],[(2,.box 212 [.nil,.nil,.nil,.nil,.nil]),(3,.box 212 [.d (.sl (intE r.topo.parents)),.d (.sl (QaD r.topo.nodes)),.d (.sl (Qaw r.up)),slN 38 (QaU k.2),.d (.sl (ptE r.lics))])]++slO 38 210 (QaU k.2)⟩) (fun k=>k.1≤r.profs.length∧k.2=r.profs.take k.1) (fun k=>r.profs.length - k.1) (0,[]) (by exact ⟨Nat.zero_le _,rfl⟩) ?_ ?_
 ·refine ⟨rfl,?_,?_,rfl⟩
  repeat'(first|apply And.intro|exact ze0|refine ze1 ?_|refine zei ?_ ?_|exact rfl|trivial)
  all_goals exact Stop.mk (by first|rfl|exact Qan _)
 ·rintro ⟨n,out⟩ ⟨hn,ho⟩
  dsimp only at hn ho ⊢
  have hol:out.length=n:=by rw [ho,List.length_take];omega
  have hol2:=Qan out
  by_cases hn':n<r.profs.length
  ·have hp:=h.profs n hn'
   have hpl2:=hp.len
   have hnx:=Qas hn'
   rw [←ho] at hnx
   cases out with
   | nil=>
    repeat' (first|refine zst ?_|(refine zhm fun hb=>?_;try exact zab)|refine zdr ?_|(apply zch;exact zcg)|refine HopS.mk fun w0 Z O=>?_|exact zhk|refine zg3 ?_ ?_|refine zln fun _=>?_|refine zop ?_|(refine km [] (Qc9 (l:=nth r.profs n) (by omega)) rfl rfl (fun i hi=>?_);(try dsimp only at hi))|fail)
    refine ⟨(n+1,[]++[nth r.profs n]),⟨by omega,hnx.symm⟩,by omega,?_⟩
    exact ⟨rfl,zae,zae,rfl⟩
   | cons p0 o0=>
    repeat' (first|refine zst ?_|(refine zhm fun hb=>?_;try exact zab)|refine zdr ?_|(apply zch;exact zcg)|refine HopS.mk fun w0 Z O=>?_|exact zhk|refine zg3 ?_ ?_|refine zln fun _=>?_|refine zop ?_|(refine km [] (Qc9 (l:=nth r.profs n) (by omega)) rfl rfl (fun i hi=>?_);(try dsimp only at hi))|fail)
    refine ⟨(n+1,(p0::o0)++[nth r.profs n]),⟨by omega,hnx.symm⟩,by omega,?_⟩
    refine ⟨rfl,?_,?_,rfl⟩
    repeat'(first|apply And.intro|exact ze0|refine ze1 ?_|refine zei ?_ ?_|exact rfl|trivial)
    all_goals exact Stop.mk (by first|rfl|exact Qcu (p0::o0) _)
  ·have hall:out=r.profs:=by rw [ho,List.take_of_length_le (by omega)]
   cases out with
   | nil=>rw [←hall] at h0;cases h0
   | cons p0 o0=>
    repeat' (first|refine zsr ?_|(refine zhm fun hb=>?_;try exact zab)|refine zdr ?_|(apply zch;exact zcg)|refine HopS.mk fun w0 Z O=>?_|exact zhk|refine zg3 ?_ ?_|refine zln fun _=>?_|refine zop ?_|fail)
    show AWp _ _ _ _
    refine Qac ?_
    apply Qab
    refine zm () [38] trivial ?_ ?_ ?_
    repeat'(first|apply And.intro|exact ze0|refine ze1 ?_|refine zei ?_ ?_|exact rfl|trivial)
    all_goals exact Stop.mk (by first|rfl|rw [hall])
end Go.Proofs.YtelbahebpmkfjaaGreat
namespace Go.Proofs.YtelbahebpmkfjaaGreat
open Go Go.RowKit
attribute [local irreducible] AWp Qat OpOk ACalls ChA QsOk MCalls EnC PY

@[reducible] def QfB (o:Option Room):List AV:=[QcC (o.getD zR),.d (.b o.isSome)]
theorem QiC {r:Room} {j:Job} {a b:Int} {l:List Int} (h:Qau j=false):resO r j a b l=none:=by
 unfold resO
 rw [if_neg (by rw [h];simp)]
theorem Qip {r:Room} {j:Job} {a b:Int} {l:List Int} (h:QeS r.topo j l=false):resO r j a b l=none:=by
 unfold resO
 rw [if_neg (by rw [h];simp)]
theorem Qr8 {r:Room} {j:Job} {a b:Int} {l:List Int} (h1:RoomOk r) (h2:Qau j=true) (h3:QeS r.topo j l=true):resO r j a b l=match QiB a b j.need l r.profs with
  | none=>none
  | some ps=>match Qd1 r.lics a b j.lic with
   | none=>none
   | some q=>some ⟨r.topo,r.up,ps,q⟩:=by
 unfold resO
 rw [if_pos (by rw [h2,h3,show Qsa r=true from pB_t.2 h1];rfl)]
 rfl
theorem QgD (ps:List (List Pt)) (n:Nat) (q:List Pt):(QaU ps).set n [.sl (ptE q)]=QaU (ps.set n q):=by simp [QaU,List.map_set]
structure TakP (r:Room) (a b:Int) (v:V3) (l:List Int) (i:Nat) (ps:List (List Pt)):Prop where
 le:i≤l.length
 len:ps.length=r.profs.length
 ok:∀j,j<ps.length→ProfOk (nth ps j)
 eq:QiB a b v (l.drop i) ps=QiB a b v l r.profs
theorem Qij {r:Room} {a b:Int} {v:V3} {l:List Int} {i:Nat} {ps:List (List Pt)} (h:TakP r a b v l i ps) (hi:i<l.length) (hq:Qd1 (nth ps (nth l i).toNat) a b v=none):QiB a b v l r.profs=none:=by
 rw [←h.eq,QdI hi,QiB,hq]
theorem QhV {r:Room} {a b:Int} {v:V3} {l:List Int} {i:Nat} {ps:List (List Pt)} {q:List Pt} (h:TakP r a b v l i ps) (hi:i<l.length) (hn:(nth l i).toNat<ps.length) (hq:Qd1 (nth ps (nth l i).toNat) a b v=some q):TakP r a b v l (i+1) (ps.set (nth l i).toNat q):=by
 refine ⟨by omega,by rw [List.length_set];exact h.len,fun j hj=>?_,?_⟩
 ·rw [List.length_set] at hj
  rw [QsA hn]
  split
  ·exact QkN hq
  ·exact h.ok j hj
 ·rw [←h.eq,QdI hi]
  conv=>rhs;rw [QiB,hq]
theorem Qky {r:Room} {a b:Int} {v:V3} {l:List Int} {i:Nat} {ps:List (List Pt)} (h:TakP r a b v l i ps) (hi:¬i<l.length):QiB a b v l r.profs=some ps:=by
 rw [←h.eq,List.drop_eq_nil_of_le (by omega)]
 rfl
theorem Qvj {r:Room} {j:Job} {a b:Int} {l:List Int} (hr:RoomOk r) (hl:l.length≤1000000000):DC Tryz.prog 246 [QcC r,jobA j,.d (.n .i64 a),.d (.n .i64 b),.d (.sl (intE l)),.clo 247 []] (QfB (resO r j a b l)):=by
 refine Qag tt Tryz.func246 rfl rfl rfl trivial (fun _ _=>⟨trivial,trivial⟩) (fun w0 Z O=>?_)
 have hs:=hr.small
 have c1:=Qhx hr
 have c2:=QeC (j:=j)
 have c3:=QfM (j:=j) hr.topo hl
 cases h2:Qau j with
 | false=>
  rw [h2] at c2
  rw [QiC h2]
  repeat' (first|refine zsr ?_|(refine zhm fun hb=>?_;try exact zab)|refine zdr ?_|(apply zch;exact zcg)|refine HopS.mk fun w0 Z O=>?_|exact zhk|refine zg3 ?_ ?_|refine zln fun _=>?_|refine zop ?_|refine kc (c1) rfl rfl ?_|refine kc (c2) rfl rfl ?_|refine kq (c1) rfl rfl ?_|refine kq (c2) rfl rfl ?_|fail)
  show AWp _ _ _ _
  refine Qac ?_
  apply Qab
  exact zm () [] trivial zae zae zae
 | true=>
  rw [h2] at c2
  cases h3:QeS r.topo j l with
  | false=>
   rw [h3] at c3
   rw [Qip h3]
   repeat' (first|refine zsr ?_|(refine zhm fun hb=>?_;try exact zab)|refine zdr ?_|(apply zch;exact zcg)|refine HopS.mk fun w0 Z O=>?_|exact zhk|refine zg3 ?_ ?_|refine zln fun _=>?_|refine zop ?_|refine kc (c1) rfl rfl ?_|refine kc (c2) rfl rfl ?_|refine kc (c3) rfl rfl ?_|refine kq (c1) rfl rfl ?_|refine kq (c2) rfl rfl ?_|refine kq (c3) rfl rfl ?_|fail)
   show AWp _ _ _ _
   refine Qac ?_
   apply Qab
   exact zm () [] trivial zae zae zae
  | true=>
   rw [h3] at c3
   rw [Qr8 hr h2 h3]
   have hd:=pB_t.1 h3
   have hjn:1≤j.nodes:=by
    simp only [Qau,Bool.and_eq_true,QcM] at h2
    omega
   have hnum:=hd.num
   have hin0:=hd.nodes 0 (by omega)
   have hpn:=hr.num
   repeat' (first|refine zst ?_|(refine zhm fun hb=>?_;try exact zab)|refine zdr ?_|(apply zch;exact zcg)|refine HopS.mk fun w0 Z O=>?_|exact zhk|refine zg3 ?_ ?_|refine zln fun _=>?_|refine zop ?_|refine kc (c1) rfl rfl ?_|refine kc (c2) rfl rfl ?_|refine kc (c3) rfl rfl ?_|(refine km [] (Qju hr (by omega)) rfl rfl (fun i hi=>?_);(try dsimp only at hi))|refine kq (c1) rfl rfl ?_|refine kq (c2) rfl rfl ?_|refine kq (c3) rfl rfl ?_|fail)
   refine Qae (fun (k:Nat×List (List Pt))=>⟨86,[(2,.d (.n .i64 a)),(3,.d (.n .i64 b)),(5,.clo 247 []),(7,.ptr 7 0),(12,.ptr 12 0),(14,.ptr 14 0),(40,.d (.sl (intE l))),(41,.d (.n .i64 (l.length:Nat))),(42,.d (.n .i64 k.1))],[(7,.box 78 ((jobD j).map AV.d)),(12,.box 212 [.nil,.nil,.nil,.nil,.nil]),(14,.box 212 [.d (.sl (intE r.topo.parents)),.d (.sl (QaD r.topo.nodes)),.d (.sl (Qaw r.up)),.row 39,.d (.sl (ptE r.lics))]),(39,.row 210 (QaU k.2) false)]⟩) (fun k=>TakP r a b j.need l k.1 k.2) (fun k=>l.length - k.1) (0,r.profs) (by exact ⟨Nat.zero_le _,rfl,hr.profs,rfl⟩) ?_ ?_
   ·refine ⟨rfl,?_,?_,rfl⟩
    repeat'(first|apply And.intro|exact ze0|refine ze1 ?_|refine zei ?_ ?_|exact rfl|trivial)
    all_goals exact Stop.mk (by first|rfl|exact Qad _)
   ·rintro ⟨n,ps⟩ ht
    dsimp only at ht ⊢
    have hle:=ht.le
    have hlen:=ht.len
    have hil:=Qad l
    have hpl:=Qan ps
    by_cases hn':n<l.length
    ·have hin:=hd.nodes n hn'
     have hok:=ht.ok (nth l n).toNat (by omega)
     have hokl:=hok.len
     have c4:=Qe3 (l:=nth ps (nth l n).toNat) (a:=a) (b:=b) (v:=j.need) (by omega)
     cases hq:Qd1 (nth ps (nth l n).toNat) a b j.need with
     | none=>
      rw [hq] at c4
      rw [Qij ht hn' hq]
      repeat' (first|refine zsr ?_|(refine zhm fun hb=>?_;try exact zab)|refine zdr ?_|(apply zch;exact zcg)|refine HopS.mk fun w0 Z O=>?_|exact zhk|refine zg3 ?_ ?_|refine zln fun _=>?_|refine zop ?_|(refine kw [] (c4) rfl rfl rfl rfl rfl (fun i hi=>?_);(try dsimp only at hi))|fail)
      show AWp _ _ _ _
      refine Qac ?_
      apply Qab
      exact zm () [] trivial zae zae zae
     | some q=>
      rw [hq] at c4
      have hst:=QhV ht hn' (by omega) hq
      repeat' (first|refine zsr ?_|(refine zhm fun hb=>?_;try exact zab)|refine zdr ?_|(apply zch;exact zcg)|refine HopS.mk fun w0 Z O=>?_|exact zhk|refine zg3 ?_ ?_|refine zln fun _=>?_|refine zop ?_|(refine kw [] (c4) rfl rfl rfl rfl rfl (fun i hi=>?_);(try dsimp only at hi))|fail)
      refine ⟨(n+1,ps.set (nth l n).toNat q),hst,by dsimp only;omega,?_⟩
      refine ⟨rfl,?_,?_,rfl⟩
      repeat'(first|apply And.intro|exact ze0|refine ze1 ?_|refine zei ?_ ?_|exact rfl|trivial)
      all_goals exact Stop.mk (by first|rfl|exact QgD _ _ _)
    ·rw [Qky ht hn']
     have hll:=hr.lics.len
     have c4:=Qe3 (l:=r.lics) (a:=a) (b:=b) (v:=j.lic) (by omega)
     cases hq:Qd1 r.lics a b j.lic with
     | none=>
      rw [hq] at c4
      repeat' (first|refine zsr ?_|(refine zhm fun hb=>?_;try exact zab)|refine zdr ?_|(apply zch;exact zcg)|refine HopS.mk fun w0 Z O=>?_|exact zhk|refine zg3 ?_ ?_|refine zln fun _=>?_|refine zop ?_|(refine kw [] (c4) rfl rfl rfl rfl rfl (fun i hi=>?_);(try dsimp only at hi))|fail)
      show AWp _ _ _ _
      refine Qac ?_
      apply Qab
      exact zm () [] trivial zae zae zae
     | some q=>
      rw [hq] at c4
      repeat' (first|refine zsr ?_|(refine zhm fun hb=>?_;try exact zab)|refine zdr ?_|(apply zch;exact zcg)|refine HopS.mk fun w0 Z O=>?_|exact zhk|refine zg3 ?_ ?_|refine zln fun _=>?_|refine zop ?_|(refine kw [] (c4) rfl rfl rfl rfl rfl (fun i hi=>?_);(try dsimp only at hi))|fail)
      show AWp _ _ _ _
      refine Qav 39 rfl ?_
      refine Qac ?_
      apply Qab
      exact zm () [] trivial zae zae zae
end Go.Proofs.YtelbahebpmkfjaaGreat
namespace Go.Proofs.YtelbahebpmkfjaaGreat
open Go Go.RowKit
attribute [local irreducible] AWp Qat OpOk ACalls ChA QsOk MCalls EnC PY

theorem Qik {r:Room} {j:Job} {a:Int} {l:List Int} (hr:RoomOk r) (hl:l.length≤1000000000) (ha:0≤a∧a≤1000000000):DC Tryz.prog 241 [QcC r,jobA j,.d (.n .i64 a),.d (.sl (intE l))] (QfB (resO r j a (a+j.wall) l)):=by
 refine Qag tt Tryz.func241 rfl rfl rfl trivial (fun _ _=>⟨trivial,trivial⟩) (fun w0 Z O=>?_)
 have hs:=hr.small
 have c1:=QiX (j:=j) hr hl
 have c2:=Qce (x:=a)
 rw [show inB a 0 1000000000=true by rw [QcM];exact ha] at c2
 cases h2:Qau j with
 | false=>
  rw [h2,Bool.false_and] at c1
  rw [QiC h2]
  repeat' (first|refine zsr ?_|(refine zhm fun hb=>?_;try exact zab)|refine zdr ?_|(apply zch;exact zcg)|refine HopS.mk fun w0 Z O=>?_|exact zhk|refine zg3 ?_ ?_|refine zln fun _=>?_|refine zop ?_|refine kc (c1) rfl rfl ?_|refine kq (c1) rfl rfl ?_|fail)
  show AWp _ _ _ _
  refine Qac ?_
  apply Qab
  exact zm () [] trivial zae zae zae
 | true=>
  cases h3:QeS r.topo j l with
  | false=>
   rw [h2,h3,Bool.true_and] at c1
   rw [Qip h3]
   repeat' (first|refine zsr ?_|(refine zhm fun hb=>?_;try exact zab)|refine zdr ?_|(apply zch;exact zcg)|refine HopS.mk fun w0 Z O=>?_|exact zhk|refine zg3 ?_ ?_|refine zln fun _=>?_|refine zop ?_|refine kc (c1) rfl rfl ?_|refine kq (c1) rfl rfl ?_|fail)
   show AWp _ _ _ _
   refine Qac ?_
   apply Qab
   exact zm () [] trivial zae zae zae
  | true=>
   rw [h2,h3,Bool.true_and] at c1
   rw [Qr8 hr h2 h3]
   have hd:=pB_t.1 h3
   have hjb:=h2
   simp only [Qau,Bool.and_eq_true,QcM] at hjb
   have hjw:1≤j.wall∧j.wall≤1000000:=hjb.1.2
   have hjn:1≤j.nodes:=by omega
   have hnum:=hd.num
   have hin0:=hd.nodes 0 (by omega)
   have hpn:=hr.num
   repeat' (first|refine zst ?_|(refine zhm fun hb=>?_;try exact zab)|refine zdr ?_|(apply zch;exact zcg)|refine HopS.mk fun w0 Z O=>?_|exact zhk|refine zg3 ?_ ?_|refine zln fun _=>?_|refine zop ?_|refine kc (c1) rfl rfl ?_|refine kc (c2) rfl rfl ?_|(refine km [] (Qh8 hr (by omega)) rfl rfl (fun i hi=>?_);(try dsimp only at hi))|refine kq (c1) rfl rfl ?_|refine kq (c2) rfl rfl ?_|fail)
   refine Qae (fun (k:Nat×List (List Pt))=>⟨80,[(2,.d (.n .i64 a)),(5,.ptr 5 0),(8,.ptr 8 0),(10,.ptr 10 0),(30,.d (.sl (intE l))),(31,.d (.n .i64 (l.length:Nat))),(32,.d (.n .i64 k.1))],[(5,.box 78 ((jobD j).map AV.d)),(8,.box 212 [.nil,.nil,.nil,.nil,.nil]),(10,.box 212 [.d (.sl (intE r.topo.parents)),.d (.sl (QaD r.topo.nodes)),.d (.sl (Qaw r.up)),.row 29,.d (.sl (ptE r.lics))]),(29,.row 210 (QaU k.2) false)]⟩) (fun k=>TakP r a (a+j.wall) j.need l k.1 k.2) (fun k=>l.length - k.1) (0,r.profs) (by exact ⟨Nat.zero_le _,rfl,hr.profs,rfl⟩) ?_ ?_
   ·refine ⟨rfl,?_,?_,rfl⟩
    repeat'(first|apply And.intro|exact ze0|refine ze1 ?_|refine zei ?_ ?_|exact rfl|trivial)
    all_goals exact Stop.mk (by first|rfl|exact Qad _)
   ·rintro ⟨n,ps⟩ ht
    dsimp only at ht ⊢
    have hle:=ht.le
    have hlen:=ht.len
    have hil:=Qad l
    have hpl:=Qan ps
    by_cases hn':n<l.length
    ·have hin:=hd.nodes n hn'
     have hok:=ht.ok (nth l n).toNat (by omega)
     have hokl:=hok.len
     have c4:=Qjg (l:=nth ps (nth l n).toNat) (a:=a) (b:=a+j.wall) (v:=j.need) (by omega)
     cases hq:Qd1 (nth ps (nth l n).toNat) a (a+j.wall) j.need with
     | none=>
      rw [hq] at c4
      rw [Qij ht hn' hq]
      repeat' (first|refine zsr ?_|(refine zhm fun hb=>?_;try exact zab)|refine zdr ?_|(apply zch;exact zcg)|refine HopS.mk fun w0 Z O=>?_|exact zhk|refine zg3 ?_ ?_|refine zln fun _=>?_|refine zon ?_|(refine km [] (c4) rfl rfl (fun i hi=>?_);(try dsimp only at hi))|fail)
      show AWp _ _ _ _
      refine Qac ?_
      apply Qab
      exact zm () [] trivial zae zae zae
     | some q=>
      rw [hq] at c4
      have hst:=QhV ht hn' (by omega) hq
      repeat' (first|refine zsr ?_|(refine zhm fun hb=>?_;try exact zab)|refine zdr ?_|(apply zch;exact zcg)|refine HopS.mk fun w0 Z O=>?_|exact zhk|refine zg3 ?_ ?_|refine zln fun _=>?_|refine zon ?_|(refine km [] (c4) rfl rfl (fun i hi=>?_);(try dsimp only at hi))|fail)
      refine ⟨(n+1,ps.set (nth l n).toNat q),hst,by dsimp only;omega,?_⟩
      refine ⟨rfl,?_,?_,rfl⟩
      repeat'(first|apply And.intro|exact ze0|refine ze1 ?_|refine zei ?_ ?_|exact rfl|trivial)
      all_goals exact Stop.mk (by first|rfl|exact QgD _ _ _)
    ·rw [Qky ht hn']
     have hll:=hr.lics.len
     have c4:=Qjg (l:=r.lics) (a:=a) (b:=a+j.wall) (v:=j.lic) (by omega)
     cases hq:Qd1 r.lics a (a+j.wall) j.lic with
     | none=>
      rw [hq] at c4
      repeat' (first|refine zsr ?_|(refine zhm fun hb=>?_;try exact zab)|refine zdr ?_|(apply zch;exact zcg)|refine HopS.mk fun w0 Z O=>?_|exact zhk|refine zg3 ?_ ?_|refine zln fun _=>?_|refine zon ?_|(refine km [] (c4) rfl rfl (fun i hi=>?_);(try dsimp only at hi))|fail)
      show AWp _ _ _ _
      refine Qac ?_
      apply Qab
      exact zm () [] trivial zae zae zae
     | some q=>
      rw [hq] at c4
      repeat' (first|refine zsr ?_|(refine zhm fun hb=>?_;try exact zab)|refine zdr ?_|(apply zch;exact zcg)|refine HopS.mk fun w0 Z O=>?_|exact zhk|refine zg3 ?_ ?_|refine zln fun _=>?_|refine zon ?_|(refine km [] (c4) rfl rfl (fun i hi=>?_);(try dsimp only at hi))|fail)
      show AWp _ _ _ _
      refine Qav 29 rfl ?_
      refine Qac ?_
      apply Qab
      exact zm () [] trivial zae zae zae
end Go.Proofs.YtelbahebpmkfjaaGreat
