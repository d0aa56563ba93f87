/-
  Apply, both.
-/
import Derived.Test.YtelbahebpmkfjaaGreatKB7
import Derived.Test.YtelbahebpmkfjaaGreatKB35
import Derived.Test.YtelbahebpmkfjaaGreatKB33
import Derived.Test.YtelbahebpmkfjaaGreatKB34
import Derived.Test.YtelbahebpmkfjaaGreatKB24
set_option maxRecDepth 100000
set_option maxHeartbeats 16000000
namespace Go.Proofs.YtelbahebpmkfjaaGreat
open Go Go.RowKit
attribute [local irreducible] AWp Qat OpOk ACalls ChA QsOk MCalls NCalls EnC PY

noncomputable def Qb6 (s:State) (c:Cmd):Option State×Int:=
 if QcF c=true∧Qap s=true then
  if c.kind=1 then QcL s c.job
  else if c.kind=2 then fnsO s c.n 3
  else if c.kind=3 then fnsO s c.n 2
  else if c.kind=4 then QfK s c.n
  else if c.kind=5 then QcK s c.n
  else if c.kind=6 then QcH s c.lic
  else (untO s c.n,if (untO s c.n).isSome=true then 0 else 10)
 else (none,1)
theorem QrN {c:Cmd} (h:QcF c=true):c.kind=1∨c.kind=2∨c.kind=3∨c.kind=4∨c.kind=5∨c.kind=6∨c.kind=7:=by
 unfold QcF at h
 split at h
 ·omega
 ·split at h
  ·omega
  ·split at h
   ·omega
   ·split at h
    ·omega
    ·split at h
     ·omega
     ·cases h
theorem QlA {s:State} {c:Cmd} (hs:Small 1048576 s):∀s',(Qb6 s c).1=some s'→Small 1048576 s':=fun s' h=>by
 unfold Qb6 at h
 repeat' split at h
 ·exact Qj1 hs s' h
 ·exact QjO hs s' h
 ·exact QjO hs s' h
 ·exact QmJ hs s' h
 ·exact Qkc hs s' h
 ·exact QkT hs s' h
 ·exact Qg2 hs s' h
 ·exact Qg2 hs s' h
 ·cases h
theorem Qb0 {s:State} {k n:Int} {j:Job} {v:V3} (hc:QcF ⟨k,j,n,v⟩=true) (h:Qap s=true):Qb6 s ⟨k,j,n,v⟩=if k=1 then QcL s j else if k=2 then fnsO s n 3 else if k=3 then fnsO s n 2 else if k=4 then QfK s n else if k=5 then QcK s n else if k=6 then QcH s v else (untO s n,if (untO s n).isSome=true then 0 else 10):=if_pos ⟨hc,h⟩
theorem QhI {s:State} {c:Cmd} (h:¬(QcF c=true∧Qap s=true)):Qb6 s c=(none,1):=if_neg h
theorem QvQ {s:State} {c:Cmd} (hs:Small 1048576 s):SO 33 [QaA s,cmdA c] (Qb6 s c).1 (Qb6 s c).2:=by
 refine Qaa tt Tryz.func33 rfl rfl rfl (fun w0 Z=>?_)
 have hm:Small 100000000 s:=hs.mono (by omega)
 have c0:=Qwx (c:=c)
 have c1:=Qca hm
 cases hc:QcF c with
 | false=>
  rw [hc] at c0
  rw [QhI (fun h=>by rw [hc] at h;cases h.1)]
  repeat' (first|refine zst ?_|(refine zhm fun hb=>?_;try exact zab)|refine zg2 ?_ ?_|refine zop ?_|refine kc (c0) rfl rfl ?_|fail)
  exact zr [] zae zae
 | true=>
 rw [hc] at c0
 cases h:Qap s with
 | false=>
  rw [h] at c1
  rw [QhI (fun h'=>by rw [h] at h';cases h'.2)]
  repeat' (first|refine zst ?_|(refine zhm fun hb=>?_;try exact zab)|refine zg2 ?_ ?_|refine zop ?_|refine kc (c0) rfl rfl ?_|refine kc (c1) rfl rfl ?_|fail)
  exact zr [] zae zae
 | true=>
 rw [h] at c1
 obtain ⟨k,j,n,v⟩:=c
 have hk:=QrN hc
 dsimp only at hk
 rcases hk with rfl|rfl|rfl|rfl|rfl|rfl|rfl
 ·have hA:Qb6 s _=QcL s j:=(Qb0 hc h).trans rfl
  rw [hA]
  have c2:=Qs5 (j:=j) hs
  generalize QcL s j=o at c2 ⊢
  obtain ⟨_|s',y⟩:=o
  ·dsimp only [SO,SS,stR,stB,Option.getD] at c2 ⊢
   repeat' (first|refine zst ?_|(refine zhm fun hb=>?_;try exact zab)|refine zg2 ?_ ?_|refine zop ?_|refine kc (c0) rfl rfl ?_|refine kc (c1) rfl rfl ?_|refine kc (c2) rfl rfl ?_|fail)
   exact zr [] zae zae
  ·dsimp only [SO,SS,stR,stB,Option.getD] at c2 ⊢
   repeat' (first|refine zst ?_|(refine zhm fun hb=>?_;try exact zab)|refine zg2 ?_ ?_|refine zop ?_|refine kc (c0) rfl rfl ?_|refine kc (c1) rfl rfl ?_|refine kc (c2) rfl rfl ?_|fail)
   exact zr [24,1024,2024,3024,4024,5024] zae zae
 ·have hA:Qb6 s _=fnsO s n 3:=(Qb0 hc h).trans rfl
  rw [hA]
  have c2:=QoC (id:=n) (why:=3) hs
  generalize fnsO s n 3=o at c2 ⊢
  obtain ⟨_|s',y⟩:=o
  ·dsimp only [SO,SS,stR,stB,Option.getD] at c2 ⊢
   repeat' (first|refine zst ?_|(refine zhm fun hb=>?_;try exact zab)|refine zg2 ?_ ?_|refine zop ?_|refine kc (c0) rfl rfl ?_|refine kc (c1) rfl rfl ?_|refine kc (c2) rfl rfl ?_|fail)
   exact zr [] zae zae
  ·dsimp only [SO,SS,stR,stB,Option.getD] at c2 ⊢
   repeat' (first|refine zst ?_|(refine zhm fun hb=>?_;try exact zab)|refine zg2 ?_ ?_|refine zop ?_|refine kc (c0) rfl rfl ?_|refine kc (c1) rfl rfl ?_|refine kc (c2) rfl rfl ?_|fail)
   exact zr [32,1032,2032,3032,4032,5032] zae zae
 ·have hA:Qb6 s _=fnsO s n 2:=(Qb0 hc h).trans rfl
  rw [hA]
  have c2:=QoC (id:=n) (why:=2) hs
  generalize fnsO s n 2=o at c2 ⊢
  obtain ⟨_|s',y⟩:=o
  ·dsimp only [SO,SS,stR,stB,Option.getD] at c2 ⊢
   repeat' (first|refine zst ?_|(refine zhm fun hb=>?_;try exact zab)|refine zg2 ?_ ?_|refine zop ?_|refine kc (c0) rfl rfl ?_|refine kc (c1) rfl rfl ?_|refine kc (c2) rfl rfl ?_|fail)
   exact zr [] zae zae
  ·dsimp only [SO,SS,stR,stB,Option.getD] at c2 ⊢
   repeat' (first|refine zst ?_|(refine zhm fun hb=>?_;try exact zab)|refine zg2 ?_ ?_|refine zop ?_|refine kc (c0) rfl rfl ?_|refine kc (c1) rfl rfl ?_|refine kc (c2) rfl rfl ?_|fail)
   exact zr [40,1040,2040,3040,4040,5040] zae zae
 ·have hA:Qb6 s _=QfK s n:=(Qb0 hc h).trans rfl
  rw [hA]
  have c2:=QxO (n:=n) hs
  generalize QfK s n=o at c2 ⊢
  obtain ⟨_|s',y⟩:=o
  ·dsimp only [SO,SS,stR,stB,Option.getD] at c2 ⊢
   repeat' (first|refine zst ?_|(refine zhm fun hb=>?_;try exact zab)|refine zg2 ?_ ?_|refine zop ?_|refine kc (c0) rfl rfl ?_|refine kc (c1) rfl rfl ?_|refine kc (c2) rfl rfl ?_|fail)
   exact zr [] zae zae
  ·dsimp only [SO,SS,stR,stB,Option.getD] at c2 ⊢
   repeat' (first|refine zst ?_|(refine zhm fun hb=>?_;try exact zab)|refine zg2 ?_ ?_|refine zop ?_|refine kc (c0) rfl rfl ?_|refine kc (c1) rfl rfl ?_|refine kc (c2) rfl rfl ?_|fail)
   exact zr [48,1048,2048,3048,4048,5048] zae zae
 ·have hA:Qb6 s _=QcK s n:=(Qb0 hc h).trans rfl
  rw [hA]
  have c2:=QsW (n:=n) hs
  generalize QcK s n=o at c2 ⊢
  obtain ⟨_|s',y⟩:=o
  ·dsimp only [SO,SS,stR,stB,Option.getD] at c2 ⊢
   repeat' (first|refine zst ?_|(refine zhm fun hb=>?_;try exact zab)|refine zg2 ?_ ?_|refine zop ?_|refine kc (c0) rfl rfl ?_|refine kc (c1) rfl rfl ?_|refine kc (c2) rfl rfl ?_|fail)
   exact zr [] zae zae
  ·dsimp only [SO,SS,stR,stB,Option.getD] at c2 ⊢
   repeat' (first|refine zst ?_|(refine zhm fun hb=>?_;try exact zab)|refine zg2 ?_ ?_|refine zop ?_|refine kc (c0) rfl rfl ?_|refine kc (c1) rfl rfl ?_|refine kc (c2) rfl rfl ?_|fail)
   exact zr [56,1056,2056,3056,4056,5056] zae zae
 ·have hA:Qb6 s _=QcH s v:=(Qb0 hc h).trans rfl
  rw [hA]
  have c2:=Qtk (v:=v) hs
  generalize QcH s v=o at c2 ⊢
  obtain ⟨_|s',y⟩:=o
  ·dsimp only [SO,SS,stR,stB,Option.getD] at c2 ⊢
   repeat' (first|refine zst ?_|(refine zhm fun hb=>?_;try exact zab)|refine zg2 ?_ ?_|refine zop ?_|refine kc (c0) rfl rfl ?_|refine kc (c1) rfl rfl ?_|refine kc (c2) rfl rfl ?_|fail)
   exact zr [] zae zae
  ·dsimp only [SO,SS,stR,stB,Option.getD] at c2 ⊢
   repeat' (first|refine zst ?_|(refine zhm fun hb=>?_;try exact zab)|refine zg2 ?_ ?_|refine zop ?_|refine kc (c0) rfl rfl ?_|refine kc (c1) rfl rfl ?_|refine kc (c2) rfl rfl ?_|fail)
   exact zr [64,1064,2064,3064,4064,5064] zae zae
 ·have hA:Qb6 s _=(untO s n,if (untO s n).isSome=true then (0:Int) else 10):=(Qb0 hc h).trans rfl
  rw [hA]
  have c2:=Qr3 (t:=n) hs
  generalize untO s n=o at c2 ⊢
  rcases o with _|s'
  ·dsimp only [unR,stR,stB] at c2 ⊢
   repeat' (first|refine zst ?_|(refine zhm fun hb=>?_;try exact zab)|refine zg2 ?_ ?_|refine zop ?_|refine kc (c0) rfl rfl ?_|refine kc (c1) rfl rfl ?_|refine kc (c2) rfl rfl ?_|fail)
   exact zr [] zae zae
  ·dsimp only [unR,stR,stB] at c2 ⊢
   repeat' (first|refine zst ?_|(refine zhm fun hb=>?_;try exact zab)|refine zg2 ?_ ?_|refine zop ?_|refine kc (c0) rfl rfl ?_|refine kc (c1) rfl rfl ?_|refine kc (c2) rfl rfl ?_|fail)
   exact zr [71,1071,2071,3071,4071,5071] zae zae
theorem QwB {s:State} {c:Cmd} (hs:Small 1048576 s):SS 31 [QaA s,cmdA c] (Qb6 s c).1 (Qb6 s c).2:=by
 refine Qag tt Tryz.func31 rfl rfl rfl trivial (fun _ _=>⟨trivial,trivial⟩) (fun w0 Z O=>?_)
 have hm:Small 100000000 s:=hs.mono (by omega)
 have c0:=Qva (c:=c)
 have c1:=QcD hm
 cases hc:QcF c with
 | false=>
  rw [hc] at c0
  rw [QhI (fun h=>by rw [hc] at h;cases h.1)]
  repeat' (first|refine zsr ?_|(refine zhm fun hb=>?_;try exact zab)|refine zg2 ?_ ?_|refine zop ?_|refine kc (c0) rfl rfl ?_|fail)
  show AWp _ _ _ _
  refine Qac ?_
  apply Qab
  exact zm () [] trivial zae zae zae
 | true=>
 rw [hc] at c0
 cases h:Qap s with
 | false=>
  rw [h] at c1
  rw [QhI (fun h'=>by rw [h] at h';cases h'.2)]
  repeat' (first|refine zsr ?_|(refine zhm fun hb=>?_;try exact zab)|refine zg2 ?_ ?_|refine zop ?_|refine kc (c0) rfl rfl ?_|refine kc (c1) rfl rfl ?_|fail)
  show AWp _ _ _ _
  refine Qac ?_
  apply Qab
  exact zm () [] trivial zae zae zae
 | true=>
 rw [h] at c1
 obtain ⟨k,j,n,v⟩:=c
 have hk:=QrN hc
 dsimp only at hk
 rcases hk with rfl|rfl|rfl|rfl|rfl|rfl|rfl
 ·have hA:Qb6 s _=QcL s j:=(Qb0 hc h).trans rfl
  rw [hA]
  have c2:=Qtw (j:=j) hs
  generalize QcL s j=o at c2 ⊢
  obtain ⟨_|s',y⟩:=o
  ·dsimp only [SO,SS,stR,stB,Option.getD] at c2 ⊢
   repeat' (first|refine zsr ?_|(refine zhm fun hb=>?_;try exact zab)|refine zg2 ?_ ?_|refine zop ?_|refine kc (c0) rfl rfl ?_|refine kc (c1) rfl rfl ?_|(refine km [] (c2) rfl rfl (fun i hi=>?_);(try dsimp only at hi))|fail)
   show AWp _ _ _ _
   refine Qac ?_
   apply Qab
   exact zm () [] trivial zae zae zae
  ·dsimp only [SO,SS,stR,stB,Option.getD] at c2 ⊢
   repeat' (first|refine zsr ?_|(refine zhm fun hb=>?_;try exact zab)|refine zg2 ?_ ?_|refine zop ?_|refine kc (c0) rfl rfl ?_|refine kc (c1) rfl rfl ?_|(refine km [] (c2) rfl rfl (fun i hi=>?_);(try dsimp only at hi))|fail)
   show AWp _ _ _ _
   refine Qac ?_
   apply Qab
   exact zm () [] trivial zae zae zae
 ·have hA:Qb6 s _=fnsO s n 3:=(Qb0 hc h).trans rfl
  rw [hA]
  have c2:=QnG (id:=n) (why:=3) hs
  generalize fnsO s n 3=o at c2 ⊢
  obtain ⟨_|s',y⟩:=o
  ·dsimp only [SO,SS,stR,stB,Option.getD] at c2 ⊢
   repeat' (first|refine zsr ?_|(refine zhm fun hb=>?_;try exact zab)|refine zg2 ?_ ?_|refine zop ?_|refine kc (c0) rfl rfl ?_|refine kc (c1) rfl rfl ?_|(refine km [] (c2) rfl rfl (fun i hi=>?_);(try dsimp only at hi))|fail)
   show AWp _ _ _ _
   refine Qac ?_
   apply Qab
   exact zm () [] trivial zae zae zae
  ·dsimp only [SO,SS,stR,stB,Option.getD] at c2 ⊢
   repeat' (first|refine zsr ?_|(refine zhm fun hb=>?_;try exact zab)|refine zg2 ?_ ?_|refine zop ?_|refine kc (c0) rfl rfl ?_|refine kc (c1) rfl rfl ?_|(refine km [] (c2) rfl rfl (fun i hi=>?_);(try dsimp only at hi))|fail)
   show AWp _ _ _ _
   refine Qac ?_
   apply Qab
   exact zm () [] trivial zae zae zae
 ·have hA:Qb6 s _=fnsO s n 2:=(Qb0 hc h).trans rfl
  rw [hA]
  have c2:=QnG (id:=n) (why:=2) hs
  generalize fnsO s n 2=o at c2 ⊢
  obtain ⟨_|s',y⟩:=o
  ·dsimp only [SO,SS,stR,stB,Option.getD] at c2 ⊢
   repeat' (first|refine zsr ?_|(refine zhm fun hb=>?_;try exact zab)|refine zg2 ?_ ?_|refine zop ?_|refine kc (c0) rfl rfl ?_|refine kc (c1) rfl rfl ?_|(refine km [] (c2) rfl rfl (fun i hi=>?_);(try dsimp only at hi))|fail)
   show AWp _ _ _ _
   refine Qac ?_
   apply Qab
   exact zm () [] trivial zae zae zae
  ·dsimp only [SO,SS,stR,stB,Option.getD] at c2 ⊢
   repeat' (first|refine zsr ?_|(refine zhm fun hb=>?_;try exact zab)|refine zg2 ?_ ?_|refine zop ?_|refine kc (c0) rfl rfl ?_|refine kc (c1) rfl rfl ?_|(refine km [] (c2) rfl rfl (fun i hi=>?_);(try dsimp only at hi))|fail)
   show AWp _ _ _ _
   refine Qac ?_
   apply Qab
   exact zm () [] trivial zae zae zae
 ·have hA:Qb6 s _=QfK s n:=(Qb0 hc h).trans rfl
  rw [hA]
  have c2:=QxQ (n:=n) hs
  generalize QfK s n=o at c2 ⊢
  obtain ⟨_|s',y⟩:=o
  ·dsimp only [SO,SS,stR,stB,Option.getD] at c2 ⊢
   repeat' (first|refine zsr ?_|(refine zhm fun hb=>?_;try exact zab)|refine zg2 ?_ ?_|refine zop ?_|refine kc (c0) rfl rfl ?_|refine kc (c1) rfl rfl ?_|(refine km [] (c2) rfl rfl (fun i hi=>?_);(try dsimp only at hi))|fail)
   show AWp _ _ _ _
   refine Qac ?_
   apply Qab
   exact zm () [] trivial zae zae zae
  ·dsimp only [SO,SS,stR,stB,Option.getD] at c2 ⊢
   repeat' (first|refine zsr ?_|(refine zhm fun hb=>?_;try exact zab)|refine zg2 ?_ ?_|refine zop ?_|refine kc (c0) rfl rfl ?_|refine kc (c1) rfl rfl ?_|(refine km [] (c2) rfl rfl (fun i hi=>?_);(try dsimp only at hi))|fail)
   show AWp _ _ _ _
   refine Qac ?_
   apply Qab
   exact zm () [] trivial zae zae zae
 ·have hA:Qb6 s _=QcK s n:=(Qb0 hc h).trans rfl
  rw [hA]
  have c2:=QtB (n:=n) hs
  generalize QcK s n=o at c2 ⊢
  obtain ⟨_|s',y⟩:=o
  ·dsimp only [SO,SS,stR,stB,Option.getD] at c2 ⊢
   repeat' (first|refine zsr ?_|(refine zhm fun hb=>?_;try exact zab)|refine zg2 ?_ ?_|refine zop ?_|refine kc (c0) rfl rfl ?_|refine kc (c1) rfl rfl ?_|(refine km [] (c2) rfl rfl (fun i hi=>?_);(try dsimp only at hi))|fail)
   show AWp _ _ _ _
   refine Qac ?_
   apply Qab
   exact zm () [] trivial zae zae zae
  ·dsimp only [SO,SS,stR,stB,Option.getD] at c2 ⊢
   repeat' (first|refine zsr ?_|(refine zhm fun hb=>?_;try exact zab)|refine zg2 ?_ ?_|refine zop ?_|refine kc (c0) rfl rfl ?_|refine kc (c1) rfl rfl ?_|(refine km [] (c2) rfl rfl (fun i hi=>?_);(try dsimp only at hi))|fail)
   show AWp _ _ _ _
   refine Qac ?_
   apply Qab
   exact zm () [] trivial zae zae zae
 ·have hA:Qb6 s _=QcH s v:=(Qb0 hc h).trans rfl
  rw [hA]
  have c2:=Qtv (v:=v) hs
  generalize QcH s v=o at c2 ⊢
  obtain ⟨_|s',y⟩:=o
  ·dsimp only [SO,SS,stR,stB,Option.getD] at c2 ⊢
   repeat' (first|refine zsr ?_|(refine zhm fun hb=>?_;try exact zab)|refine zg2 ?_ ?_|refine zop ?_|refine kc (c0) rfl rfl ?_|refine kc (c1) rfl rfl ?_|(refine km [] (c2) rfl rfl (fun i hi=>?_);(try dsimp only at hi))|fail)
   show AWp _ _ _ _
   refine Qac ?_
   apply Qab
   exact zm () [] trivial zae zae zae
  ·dsimp only [SO,SS,stR,stB,Option.getD] at c2 ⊢
   repeat' (first|refine zsr ?_|(refine zhm fun hb=>?_;try exact zab)|refine zg2 ?_ ?_|refine zop ?_|refine kc (c0) rfl rfl ?_|refine kc (c1) rfl rfl ?_|(refine km [] (c2) rfl rfl (fun i hi=>?_);(try dsimp only at hi))|fail)
   show AWp _ _ _ _
   refine Qac ?_
   apply Qab
   exact zm () [] trivial zae zae zae
 ·have hA:Qb6 s _=(untO s n,if (untO s n).isSome=true then (0:Int) else 10):=(Qb0 hc h).trans rfl
  rw [hA]
  have c2:=Qqy (t:=n) hs
  generalize untO s n=o at c2 ⊢
  rcases o with _|s'
  ·dsimp only [stB,Option.getD,Option.isSome] at c2 ⊢
   repeat' (first|refine zsr ?_|(refine zhm fun hb=>?_;try exact zab)|refine zg2 ?_ ?_|refine zop ?_|refine kc (c0) rfl rfl ?_|refine kc (c1) rfl rfl ?_|(refine km [] (c2) rfl rfl (fun i hi=>?_);(try dsimp only at hi))|fail)
   show AWp _ _ _ _
   refine Qac ?_
   apply Qab
   exact zm () [] trivial zae zae zae
  ·dsimp only [stB,Option.getD,Option.isSome] at c2 ⊢
   repeat' (first|refine zsr ?_|(refine zhm fun hb=>?_;try exact zab)|refine zg2 ?_ ?_|refine zop ?_|refine kc (c0) rfl rfl ?_|refine kc (c1) rfl rfl ?_|(refine km [] (c2) rfl rfl (fun i hi=>?_);(try dsimp only at hi))|fail)
   show AWp _ _ _ _
   refine Qac ?_
   apply Qab
   exact zm () [] trivial zae zae zae
end Go.Proofs.YtelbahebpmkfjaaGreat
namespace Go.Proofs.YtelbahebpmkfjaaGreat
open Go Go.RowKit
attribute [local irreducible] AWp Qat OpOk ACalls ChA QsOk MCalls NCalls EnC PY

theorem lawApply_e {s:State} {c:Cmd} (h:Small 9223372036854775807 s):ACalls Tryz.prog 6 [QaA s,cmdA c] [.d (.b true)] []:=by
 refine Qaa tt Tryz.func6 rfl rfl rfl (fun w0 Z=>?_)
 by_cases hS:Small 1048576 s
 ·have c1:=QwB (c:=c) hS
  have c2:=QvQ (c:=c) hS
  have hO:=QlA (c:=c) hS
  generalize Qb6 s c=o at c1 c2 hO
  obtain ⟨_|s',c⟩:=o
  ·dsimp only [SO,SS,stR,stB,Option.getD] at c1 c2
   repeat' (first|refine zst ?_|(refine zhm fun hb=>?_;try exact zab)|(apply QaT 10;kernel_rfl;exact rfl)|refine zdr ?_|(apply zch;exact zcg)|refine HopS.mk fun w0 Z O=>?_|exact zhk|refine zg3 ?_ ?_|(apply Qcj;first|(refine km (t:=23) [] (QbD hS) rfl rfl (fun i hi=>?_)))|refine zop ?_|refine kc (QbO hS) rfl rfl ?_|refine kc (Qkg) rfl rfl ?_|refine kc (c2) rfl rfl ?_|refine kc (QaQ (s:=zS) (QbY _)) rfl rfl ?_|refine kc (QaQ (s:=s) (hS.mono (by omega))) rfl rfl ?_|refine kc (QcV (k:=1)) rfl rfl ?_|refine kc (Qbm (s:=zS) (k:=1) (QbY _) (by omega)) rfl rfl ?_|(refine km [] (Qc7 h) rfl rfl (fun i hi=>?_);(try dsimp only at hi))|(refine km [] (QbD hS) rfl rfl (fun i hi=>?_);(try dsimp only at hi))|(refine km [] (c1) rfl rfl (fun i hi=>?_);(try dsimp only at hi))|(refine km [30,1030,2030,3030,4030,5030] (QbH (k:=1) hS (by omega)) rfl rfl (fun i hi=>?_);(try dsimp only at hi))|refine kq (QbO hS) rfl rfl ?_|refine kq (Qkg) rfl rfl ?_|refine kq (c2) rfl rfl ?_|refine kq (QaQ (s:=zS) (QbY _)) rfl rfl ?_|refine kq (QaQ (s:=s) (hS.mono (by omega))) rfl rfl ?_|refine kq (QcV (k:=1)) rfl rfl ?_|refine kq (Qbm (s:=zS) (k:=1) (QbY _) (by omega)) rfl rfl ?_|fail)
   all_goals
    exact zr [] zae zae
  ·dsimp only [SO,SS,stR,stB,Option.getD] at c1 c2
   have hO:=hO s' rfl
   repeat' (first|refine zst ?_|(refine zhm fun hb=>?_;try exact zab)|(apply QaT 10;kernel_rfl;exact rfl)|refine zdr ?_|(apply zch;exact zcg)|refine HopS.mk fun w0 Z O=>?_|exact zhk|refine zg3 ?_ ?_|(apply Qcj;first|(refine km (t:=23) [] (QbD hS) rfl rfl (fun i hi=>?_)))|refine zop ?_|refine kc (QbO hS) rfl rfl ?_|refine kc (Qkg) rfl rfl ?_|refine kc (c2) rfl rfl ?_|refine kc (QaQ (s:=s') (hO.mono (by omega))) rfl rfl ?_|refine kc (QaQ (s:=s) (hS.mono (by omega))) rfl rfl ?_|refine kc (Qbm (s:=s') (k:=1) hO (by omega)) rfl rfl ?_|(refine km [] (Qc7 h) rfl rfl (fun i hi=>?_);(try dsimp only at hi))|(refine km [] (QbD hS) rfl rfl (fun i hi=>?_);(try dsimp only at hi))|(refine km [] (c1) rfl rfl (fun i hi=>?_);(try dsimp only at hi))|(refine km [30,1030,2030,3030,4030,5030] (QbH (k:=1) hS (by omega)) rfl rfl (fun i hi=>?_);(try dsimp only at hi))|(refine km [35,1035,2035,3035,4035,5035] (QbH (k:=1) hO (by omega)) rfl rfl (fun i hi=>?_);(try dsimp only at hi))|refine kq (QbO hS) rfl rfl ?_|refine kq (Qkg) rfl rfl ?_|refine kq (c2) rfl rfl ?_|refine kq (QaQ (s:=s') (hO.mono (by omega))) rfl rfl ?_|refine kq (QaQ (s:=s) (hS.mono (by omega))) rfl rfl ?_|refine kq (Qbm (s:=s') (k:=1) hO (by omega)) rfl rfl ?_|fail)
   all_goals
    exact zr [] zae zae
 ·repeat' (first|refine zst ?_|(refine zhm fun hb=>?_;try exact zab)|refine zdr ?_|(apply zch;exact zcg)|refine HopS.mk fun w0 Z O=>?_|exact zhk|refine zg3 ?_ ?_|refine zop ?_|(refine km [] (QuX h hS) rfl rfl (fun i hi=>?_);(try dsimp only at hi))|fail)
  exact zr [] zae zae
end Go.Proofs.YtelbahebpmkfjaaGreat
